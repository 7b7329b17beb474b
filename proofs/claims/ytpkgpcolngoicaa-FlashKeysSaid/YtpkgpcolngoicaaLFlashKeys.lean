/- FlashKeys: without a key nothing is written: for every input. -/
import Derived.Test.YtpkgpcolngoicaaLFlashPrograms
import Derived.Test.YtpkgpcolngoicaaPOps
set_option linter.unusedVariables false
set_option linter.unusedSimpArgs false
namespace Go.Proofs.Ytpkgpcolngoicaa.Given
open Go.RowKit Go.Proofs.Ytpkgpcolngoicaa.All Go.Proofs.Ytpkgpcolngoicaa.Sep Go.Proofs.YtpkgpcolngoicaaW.PrintWords Go.Proofs.YtpkgpcolngoicaaW.PrintLast Go.Proofs.YtpkgpcolngoicaaW.PrintMore
attribute [local go_sem] max2_int min2_int max_two min_two

theorem write_keep {n : Int} {xs : List Int} (h0 : 1 ≤ n) (hl : (xs.length : Int) = 256 * n) (a v : Int) (hk : ¬ (Given.mx 0 a % 256 = 85 ∧ v = 170)) : writeS (newS n xs) a v = newS n xs := by
  have hp : place xs a % 256 = Given.mx 0 a % 256 := by
    unfold place
    exact Int.emod_emod_of_dvd _ ⟨n, hl⟩
  unfold writeS takeS
  rw [if_neg (by show ¬ (0 : Int) < 0; omega)]
  by_cases h : v = 240 ∧ (newS n xs).raw = false
  · rw [if_pos h]
    rfl
  · rw [if_neg h]
    show (if place xs a % 256 = 85 ∧ v = 170 then _ else _) = _
    rw [hp, if_neg hk]
    rfl
theorem new_good (n : Int) (xs : List Int) : Good (newS n xs) := ⟨Int.le_refl _, by show (0 : Int) ≤ 200; omega, Int.le_refl _, Int.le_refl _, by show (0 : Int) + 0 ≤ _; omega⟩
theorem ops_cells {w0 : World} {A : Option Addr} {l : List SOP} (hr : Kd.C kOP w0 A l.length l) (k : Nat) (hk : k < l.length) :
    ∃ ad, A = some ad ∧ ∀ W, Below w0.heap.size w0 W → W.cell? (ad.add (k * 3)) = some (.int .u8 (rd_OP l k).f0) ∧ W.cell? ⟨(ad.add (k * 3)).block, (ad.add (k * 3)).off + 1, none⟩ = some (.int .i64 (rd_OP l k).f1) ∧ W.cell? ⟨(ad.add (k * 3)).block, (ad.add (k * 3)).off + 2, none⟩ = some (.int .u8 (rd_OP l k).f2) := by
  obtain ⟨ad, e, _⟩ := at_OP hr (k : Int) (by omega) (by omega)
  refine ⟨ad, e, fun W hb => ?_⟩
  obtain ⟨ad', e', h⟩ := at_OP (Kd.C_below hr hb) (k : Int) (by omega) (by omega)
  rw [e] at e'
  injection e' with e'
  subst e'
  exact h
theorem flashKeys_long (a0 : Int) (A : Option Addr) (c : Nat) (l : List Int) (A2 : Option Addr) (c2 : Nat) (l2 : List SOP) (w : World) (hw : 0 ≤ a0 ∧ a0 ≤ 255) (hle : 40 < (l.length : Int) ∨ 120 < (l2.length : Int)) :
    Calls Try.prog 5 #[.int .u8 a0, .slice A l.length c, .slice A2 l2.length c2] w fun e w' => e = .returned (.bool true) ∧ Below w.heap.size w w' := by
  have HW := Lib.hid (awake_walk (Held.nil w))
  by_cases h40 : 40 < (l.length : Int)
  · clear hle
    go_enter Try.func5, Try.ntmps5
    go_wp2_with (go_at_call 11; (with_reducible refine HW.out.mono ?_); rintro e w1 ⟨rfl, h⟩; have HA := Aside0.mk h; clear h)
    go_ret
    exact ⟨rfl, HA.out.bel⟩
  · have h120 : 120 < (l2.length : Int) := by omega
    clear hle
    go_enter Try.func5, Try.ntmps5
    go_wp2_with (go_at_call 11; (with_reducible refine HW.out.mono ?_); rintro e w1 ⟨rfl, h⟩; have HA := Aside0.mk h; clear h)
    go_ret
    exact ⟨rfl, HA.out.bel⟩
set_option maxHeartbeats 3200000 in
set_option maxRecDepth 20000 in
theorem flashKeys_short (a0 : Int) (A : Option Addr) (c : Nat) (l : List Int) (A2 : Option Addr) (c2 : Nat) (l2 : List SOP) (w : World) (hr : (Kd.int .u8).C w A l.length l) (hc : l.length ≤ c) (hr2 : Kd.C kOP w A2 l2.length l2) (hw : 0 ≤ a0 ∧ a0 ≤ 255) (hle : (l.length : Int) ≤ 40) (hle2 : (l2.length : Int) ≤ 120) :
    Calls Try.prog 5 #[.int .u8 a0, .slice A l.length c, .slice A2 l2.length c2] w fun e w' => e = .returned (.bool true) ∧ Below w.heap.size w w' := by
  have HW := Lib.hid (awake_walk (Held.nil w))
  obtain ⟨n, hn⟩ : ∃ n, 1 + a0 % 4 = n := ⟨_, rfl⟩
  have hn0 : 1 ≤ n := by omega
  have hn1 : n ≤ 4 := by omega
  obtain ⟨m, hm⟩ : ∃ m, 256 * n = m := ⟨_, rfl⟩
  obtain ⟨hm0, hm1⟩ : 256 ≤ m ∧ m ≤ 1024 := by omega
  obtain ⟨_, hL⟩ := fill_f l (by omega) (256 * n) (by omega) (by omega)
  have HM : Hid (∀ W, Held w W [] → Calls Try.prog 12 #[.int .i64 n, .slice A l.length c] W (Got w (newS n (fillOf l (256 * n))) [])) := Lib.hid (fun W h => made_walk A c n l h (Kd.C_below hr h.bel) hc (by omega) hn0 hn1)
  have HKeep : Hid (∀ a v, ¬ (Given.mx 0 a % 256 = 85 ∧ v = 170) → writeS (newS n (fillOf l (256 * n))) a v = newS n (fillOf l (256 * n))) := Lib.hid (fun a v h => write_keep hn0 hL a v h)
  rw [hm] at hL HM HKeep
  generalize fillOf l m = xs at hL HM HKeep
  have HXD : Aside0 ((newS n xs).data = xs) := ⟨rfl⟩
  have HX0 : Aside0 ((newS n xs).left = 0) := ⟨rfl⟩
  have HX1 : Aside0 (0 ≤ (newS n xs).sectors ∧ (newS n xs).sectors ≤ 255) := ⟨by show 0 ≤ n ∧ n ≤ 255; omega⟩
  have HXR : Hid (∀ a, readV (newS n xs) a = rd xs (Given.mx 0 a % (xs.length : Int))) := Lib.hid (fun a => rfl)
  have HXT : Aside0 (tickS (newS n xs) = newS n xs) := ⟨rfl⟩
  have HXG := Aside0.mk (new_good n xs)
  generalize newS n xs = s0 at *
  have hxn : 0 < xs.length := by omega
  have hxl : xs.length ≤ 100000 := by omega
  have hb1 : ((xs.length : Int) != m) = false := by rw [hL]; simp
  have hb0 : ((xs.length : Int) == 0) = false := beq_eq_false_iff_ne.2 (by omega)
  have hb3 : ((xs.length : Int) != 0) = true := bne_iff_ne.2 (by omega)
  have HR2 := Aside0.mk hr2
  clear hr hL hr2
  go_enter Try.func5, Try.ntmps5
  go_wp2_with (first
    | (go_at_call 11; (with_reducible refine HW.out.mono ?_); rintro e w1 ⟨rfl, h⟩; have HA := Aside0.mk h; clear h)
    | (go_at_call 12; (with_reducible refine (HM.out _ HA.out).mono ?_); intro e w2 hmd; obtain ⟨g, rfl, hmd⟩ := hmd; have HB := Aside0.mk hmd; clear hmd)
    | (go_at_call 13; (with_reducible refine (bytes_at HB.out HXD.out hxn).mono ?_); rintro e w3 ⟨q1, c1, rfl, h1, h⟩; have HC1 := Aside0.mk h1; have HC := Aside0.mk h.swap; clear h h1))
  clear HW HM HA HB
  go_loopw [11] (fun i wr => ∃ k : Nat, k ≤ l2.length ∧ i = .int .i64 k ∧ Aside0 (Held w wr (fl g s0 :: row (Kd.int .u8) 5 (.slice (some ⟨q1, 0, none⟩) xs.length c1) xs :: []))) (fun i _ => l2.length - (intOf i).toNat)
  case atStart => exact ⟨0, Nat.zero_le _, rfl, HC⟩
  case round =>
    obtain ⟨k, hk, rfl, hH⟩ := hrel
    clear HC
    by_cases hlt : k < l2.length
    · obtain ⟨ad, rfl, hcl⟩ := ops_cells HR2.out k hlt
      have HC := Lib.hid hcl
      obtain ⟨h0, h1, h2⟩ := hcl _ hH.out.bel
      clear hcl
      have hlt' : (k : Int) < (l2.length : Int) := by omega
      generalize hy : rd_OP l2 (k : Int) = y at *
      obtain ⟨y0, y1, y2⟩ := y
      simp only at h0 h1 h2 HC
      clear hy
      obtain ⟨v, hv⟩ : ∃ v, Given.mx 0 y1 = v := ⟨_, rfl⟩
      have hv0 : 0 ≤ v := by rw [← hv]; unfold Given.mx; split <;> omega
      have hm : (if 0 < y1 then y1 else 0) = v := hv
      have HV := Aside0.mk hv
      clear hv
      by_cases c0 : y0 = 0
      · subst c0
        by_cases ck : v % 256 = 85 ∧ y2 = 170
        · obtain ⟨ck1, ck2⟩ := ck
          subst ck2
          go_wp2
          go_ret
          exact ⟨rfl, hH.out.bel⟩
        · have HWr := Aside0.mk (HKeep.out y1 y2 (by rw [HV.out]; exact ck))
          have hcase : (v % 256 == 85) = false ∨ ((v % 256 == 85) = true ∧ (y2 == 170) = false) := by
            by_cases e : v % 256 = 85
            · exact .inr ⟨beq_iff_eq.2 e, beq_eq_false_iff_ne.2 (fun e2 => ck ⟨e, e2⟩)⟩
            · exact .inl (beq_eq_false_iff_ne.2 e)
          clear ck
          rcases hcase with e5 | ⟨e5, e6⟩
          · go_wp2
            go_still_tail 11, (by kernel_rfl)
            go_wp2_with (go_at_call 23; (with_reducible refine (write_walk hH.out.drew y1 y2).mono ?_); rintro e w4 ⟨rfl, h⟩; rw [HWr.out] at h; obtain ⟨h3, _, _⟩ := HC.out _ h.bel; have HO := Aside0.mk h; clear h)
            go_quiet (fail)
            rename_i nq
            have HO2 := Aside0.mk (HO.out.below (pw_below_drewN (Below.refl _ _) nq))
            obtain ⟨r0, _, r2⟩ := HC.out _ HO2.out.bel
            generalize w4.drewN nq = w6 at *
            go_wp2_with (go_at_call 18; (with_reducible refine (left_is HO2.out HX0.out).mono ?_); rintro e w5 ⟨rfl, rfl⟩)
            go_roundw
            case rel => exact ⟨k + 1, by omega, by go_num, HO2⟩
            case measure => simp [intOf]; omega
          · go_wp2
            go_still_tail 11, (by kernel_rfl)
            go_wp2_with (go_at_call 23; (with_reducible refine (write_walk hH.out.drew y1 y2).mono ?_); rintro e w4 ⟨rfl, h⟩; rw [HWr.out] at h; obtain ⟨h3, _, _⟩ := HC.out _ h.bel; have HO := Aside0.mk h; clear h)
            go_quiet (fail)
            rename_i nq
            have HO2 := Aside0.mk (HO.out.below (pw_below_drewN (Below.refl _ _) nq))
            obtain ⟨r0, _, r2⟩ := HC.out _ HO2.out.bel
            generalize w4.drewN nq = w6 at *
            go_wp2_with (go_at_call 18; (with_reducible refine (left_is HO2.out HX0.out).mono ?_); rintro e w5 ⟨rfl, rfl⟩)
            go_roundw
            case rel => exact ⟨k + 1, by omega, by go_num, HO2⟩
            case measure => simp [intOf]; omega
      · have d0 : (y0 == 0) = false := beq_eq_false_iff_ne.2 c0
        by_cases k1 : y0 = 1
        · subst k1
          obtain ⟨p, hp⟩ : ∃ p, v % (xs.length : Int) = p := ⟨_, rfl⟩
          have hp0 : 0 ≤ p := by rw [← hp]; exact Int.emod_nonneg _ (by omega)
          have hp1 : p < (xs.length : Int) := by rw [← hp]; exact Int.emod_lt_of_pos _ (by omega)
          obtain ⟨z, hz⟩ : ∃ z, rd xs p = z := ⟨_, rfl⟩
          obtain ⟨hcell, _⟩ := row_cell hH.out.swap p hp0 hp1 hz
          have hrv : readV s0 y1 = z := by rw [HXR.out, HV.out, hp, hz]
          have HRq := Lib.hid (read_quiet hH.out HX0.out HX1.out hrv)
          clear hrv hz c0
          go_wp2
          go_quiet (first | (go_at_call 19; exact Calls.quiet_of_same (HRq.out _)))
          rename_i nq
          have HO2 := Aside0.mk (hH.out.below (pw_below_drewN (Below.refl _ _) nq))
          obtain ⟨r0, _, r2⟩ := HC.out _ HO2.out.bel
          generalize wr.drewN nq = w6 at *
          go_wp2_with (go_at_call 18; (with_reducible refine (left_is HO2.out HX0.out).mono ?_); rintro e w5 ⟨rfl, rfl⟩)
          go_roundw
          case rel => exact ⟨k + 1, by omega, by go_num, HO2⟩
          case measure => simp [intOf]; omega
        · have d1 : (y0 == 1) = false := beq_eq_false_iff_ne.2 k1
          by_cases k2 : y0 = 2
          · subst k2
            clear c0 k1
            go_wp2
            go_quiet (fail)
            rename_i nq
            have HO2 := Aside0.mk (hH.out.below (pw_below_drewN (Below.refl _ _) nq))
            obtain ⟨r0, _, r2⟩ := HC.out _ HO2.out.bel
            generalize wr.drewN nq = w6 at *
            go_wp2_with (first
              | (go_at_call 24; (with_reducible refine (tick_walk HO2.out HXG.out).mono ?_); rintro e w4 ⟨rfl, h⟩; rw [HXT.out] at h; have HO3 := Aside0.mk h; clear h)
              | (go_at_call 18; (with_reducible refine (left_is HO3.out HX0.out).mono ?_); rintro e w5 ⟨rfl, rfl⟩))
            go_roundw
            case rel => exact ⟨k + 1, by omega, by go_num, HO3⟩
            case measure => simp [intOf]; omega
          · have d2 : (y0 == 2) = false := beq_eq_false_iff_ne.2 k2
            clear c0 k1 k2
            go_wp2
            go_quiet (fail)
            rename_i nq
            have HO2 := Aside0.mk (hH.out.below (pw_below_drewN (Below.refl _ _) nq))
            obtain ⟨r0, _, r2⟩ := HC.out _ HO2.out.bel
            generalize wr.drewN nq = w6 at *
            go_wp2_with (go_at_call 18; (with_reducible refine (left_is HO2.out HX0.out).mono ?_); rintro e w5 ⟨rfl, rfl⟩)
            go_roundw
            case rel => exact ⟨k + 1, by omega, by go_num, HO2⟩
            case measure => simp [intOf]; omega
    · obtain rfl : k = l2.length := by omega
      have hlt' : ¬ (l2.length : Int) < (l2.length : Int) := by omega
      go_wp2_with (first
        | (go_at_call 13; (with_reducible refine (bytes_at hH.out HXD.out hxn).mono ?_); rintro e w5 ⟨q2, c3, rfl, h1, h⟩; have HC3 := Aside0.mk h1; have HI := Aside0.mk h; clear h h1)
        | (go_at_call 17; (with_reducible refine (same_rows (row_reads HI.out) (row_reads HI.out.third) rfl HC3.out HC1.out hxl).mono ?_); rintro e w6 ⟨rfl, hd⟩; have HJ := Aside0.mk (HI.out.below hd.below); clear hd))
      go_ret
      exact ⟨rfl, HJ.out.bel⟩
theorem flashKeys_walk (a0 : Int) (A : Option Addr) (c : Nat) (l : List Int) (A2 : Option Addr) (c2 : Nat) (l2 : List SOP) (w : World) (w0 : (Lit.int .u8 a0).wf = true) (hr : (Kd.int .u8).C w A l.length l) (hc : l.length ≤ c) (hb : ∀ x ∈ l, (Lit.int .u8 x).wf = true) (hr2 : Kd.C kOP w A2 l2.length l2) (hc2 : l2.length ≤ c2) (hb2 : ∀ p ∈ l2, OpWf p) :
    Calls Try.prog 5 #[.int .u8 a0, .slice A l.length c, .slice A2 l2.length c2] w fun e w' => e = .returned (.bool true) ∧ Below w.heap.size w w' := by
  simp [Lit.wf, IntKind.min, IntKind.max, IntKind.signed, IntKind.bits] at w0
  by_cases hle : (l.length : Int) ≤ 40 ∧ (l2.length : Int) ≤ 120
  · exact flashKeys_short a0 A c l A2 c2 l2 w hr hc hr2 (by omega) hle.1 hle.2
  · exact flashKeys_long a0 A c l A2 c2 l2 w (by omega) (by omega)
end Go.Proofs.Ytpkgpcolngoicaa.Given
