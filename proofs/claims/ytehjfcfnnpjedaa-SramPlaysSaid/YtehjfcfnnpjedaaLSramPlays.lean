/- SramPlays: whatever is written, latched and read, each answer, and what the chip has, is as the document says: for every input. -/
import Derived.Test.YtehjfcfnnpjedaaPlays
set_option linter.unusedVariables false
set_option linter.unusedSimpArgs false
namespace Go.Proofs.Ytehjfcfnnpjedaa.Given
open Go.RowKit Go.Proofs.Ytehjfcfnnpjedaa.All Go.Proofs.Ytehjfcfnnpjedaa.Sep Go.Proofs.YtehjfcfnnpjedaaW.PrintWords Go.Proofs.YtehjfcfnnpjedaaW.PrintLast Go.Proofs.YtehjfcfnnpjedaaW.PrintMore
attribute [local go_sem] max2_int min2_int max_two min_two

theorem ref_locked_walk (A : Option Addr) (c k : Nat) (xs : List Int) (l : List Op) (w : World) (hr : Kd.C k34 w A l.length l) (hc : l.length ≤ c) (hk : k ≤ l.length) (hl : l.length ≤ 60) :
    Calls Try.prog 11 #[.slice A k c] w fun e w' => e = .returned (.bool (!(run (false, xs) (l.take k)).1)) ∧ Drawn0 w w' := by
  have e : (l.take k).length = k := by rw [List.length_take]; omega
  have h := keepsakeref12_Locked.calls ((l.take k).length + 1) A c (l.take k) _ w (Kd.C_take hr hk) (by omega) (locked_f xs (l.take k) (by omega) _ (Nat.le_refl _))
  rwa [e] at h
theorem ref_byte_walk (A0 A : Option Addr) (c0 c k : Nat) (xs : List Int) (l : List Op) (w : World) (a : Int) (hr0 : (Kd.int .u8).C w A0 xs.length xs) (hc0 : xs.length ≤ c0) (hp : 0 < xs.length) (hr : Kd.C k34 w A l.length l) (hc : l.length ≤ c) (hk : k ≤ l.length) (hl : l.length ≤ 60) :
    Calls Try.prog 16 #[.slice A0 xs.length c0, .slice A k c, .int .i64 (place xs a)] w fun e w' => e = .returned (.int .u8 (rd (run (false, xs) (l.take k)).2 (place xs a))) ∧ Below w.heap.size w w' := by
  have e : (l.take k).length = k := by rw [List.length_take]; omega
  have h := keepsakeref12_Byte.calls (2 * (l.take k).length + 1) A0 c0 xs A c (l.take k) (place xs a) _ w hr0 hc0 (Kd.C_take hr hk) (by omega) (byte_f xs hp (l.take k) (by omega) _ (place_bd xs a hp) _ (Nat.le_refl _))
  rwa [e] at h
theorem ref_bytes_walk (A0 A : Option Addr) (c0 c : Nat) (xs : List Int) (l : List Op) (w : World) (hr0 : (Kd.int .u8).C w A0 xs.length xs) (hc0 : xs.length ≤ c0) (hp : 0 < xs.length) (hx : xs.length ≤ 100000) (hr : Kd.C k34 w A l.length l) (hc : l.length ≤ c) (hl : l.length ≤ 60) :
    Calls Try.prog 19 #[.slice A0 xs.length c0, .slice A l.length c] w fun e w' => ∃ v0_ : Value, e = .returned (v0_) ∧ Kd.R (Kd.int .u8) 5 w' w.heap.size (fun _ => True) v0_ (run (false, xs) l).2 ∧ Below w.heap.size w w' :=
  keepsakeref12_Bytes.calls (2 * l.length + 1 + xs.length) A0 c0 xs A c l _ w hr0 hc0 hr hc (bytes_f xs hp hx l (by omega))
theorem _root_.Go.Proofs.Ytehjfcfnnpjedaa.Sep.Held.drewN {w0 w : World} {ts : List Thing} (h : Held w0 w ts) (n : Nat) : Held w0 (w.drewN n) ts := h.below (pw_below_drewN (Below.refl _ _) n)
theorem infoO : ∃ i, Try.prog.info? 34 = some i := by
  obtain ⟨i, h, _⟩ := info_parts info34
  exact ⟨i, h⟩
set_option maxHeartbeats 3200000 in
set_option maxRecDepth 100000 in
theorem sramPlays_main (u : Int) (A1 : Option Addr) (c1 : Nat) (b : List Int) (A2 : Option Addr) (c2 : Nat) (l : List Op) (w : World) (hu : 0 ≤ u ∧ u ≤ 255)
    (hr1 : (Kd.int .u8).C w A1 b.length b) (hc1 : b.length ≤ c1) (hr2 : Kd.C k34 w A2 l.length l) (hc2 : l.length ≤ c2) (hb : b.length ≤ 40) (hl : l.length ≤ 60) :
    Calls Try.prog 3 #[.int .u8 u, .slice A1 b.length c1, .slice A2 l.length c2] w fun e w' => e = .returned (.bool true) ∧ Below w.heap.size w w' := by
  have HW := Lib.hid (awake_walk (Held.nil w))
  obtain ⟨hu0, hu1⟩ := hu
  obtain ⟨hF, hL⟩ := fill_f b (by omega) (64 * (1 + u % 4)) (by omega) (by omega)
  have HF := Aside0.mk hF
  have HM : Aside0 (∀ w1 ts, Held w w1 ts → Calls Try.prog 10 #[.int .i64 (1 + u % 4), .slice A1 b.length c1] w1 (Got w false (fillOf b (64 * (1 + u % 4))) ts)) :=
    ⟨fun w1 ts h => made_walk A1 c1 (1 + u % 4) b h (Kd.C_below hr1 h.bel) hc1 hb (by omega) (by omega)⟩
  have HR1 := Aside0.mk hr1
  have HR2 := Aside0.mk hr2
  have hx0 : 0 < (fillOf b (64 * (1 + u % 4))).length := by omega
  have hx1 : (fillOf b (64 * (1 + u % 4))).length ≤ 100000 := by omega
  clear hr1 hr2 hF hL
  obtain ⟨i0, hi0⟩ := infoO
  have HI0 := Aside0.mk hi0
  clear hi0
  generalize fillOf b (64 * (1 + u % 4)) = xs at *
  go_enter Try.func3, Try.ntmps3
  go_wp2_with (first
    | (go_at_call 8; (with_reducible refine HW.out.mono ?_); rintro e w1 ⟨rfl, h⟩; have HA := Aside0.mk h; clear h)
    | (go_at_call 9; (with_reducible refine (keepsakeref10_Fill.calls _ _ _ b _ xs _ (Kd.C_below HR1.out HA.out.bel) hc1 HF.out).mono ?_); rintro e w2 ⟨v2, rfl, hR, hb2⟩; obtain ⟨A5, c5, rfl⟩ := Kd.R_slice hR; have HB := Aside0.mk (HA.out.row_new hR hb2); clear hR hb2)
    | (go_at_call 10; (with_reducible refine (HM.out _ _ HB.out).mono ?_); rintro e w3 ⟨g, rfl, h⟩; have HC := Aside0.mk h; clear h))
  go_loopw [11] (fun i wr => ∃ k : Nat, k ≤ l.length ∧ i = .int .i64 k ∧ Aside0 (Held w wr [chipS g (run (false, xs) (l.take k)), row (Kd.int .u8) 5 (.slice A5 xs.length c5) xs])) (fun i _ => l.length - (intOf i).toNat)
  case atStart => exact ⟨0, Nat.zero_le _, rfl, HC⟩
  case round =>
    obtain ⟨k, hk, rfl, hH⟩ := hrel
    clear HA HB HC HM HF HW
    by_cases hlt : k < l.length
    · obtain ⟨ad, rfl, hc⟩ := ops_at HR2.out k hlt
      have HS := Aside0.mk (run_succ (false, xs) l k hlt)
      have HLk := Aside0.mk (fun W h => ref_locked_walk (some ad) c2 k xs l W (Kd.C_below HR2.out h) hc2 hk hl)
      have HBy := Aside0.mk (fun W a h hr => ref_byte_walk A5 (some ad) c5 c2 k xs l W a hr (row_reads hH.out.swap).2.1 hx0 (Kd.C_below HR2.out h) hc2 hk hl)
      have hcut := cut_to (P := Try.prog) 23 34 .i64 Try.underlying23 HI0.out (some ad) l.length c2 (k : Int) (by omega) (by omega) hc2
      simp only [Int.toNat_natCast] at hcut
      have HC := Lib.hid hc
      obtain ⟨h0, h1, h2⟩ := hc _ hH.out.bel
      clear hc
      generalize hy : opAt l k = y at *
      obtain ⟨y0, y1, y2⟩ := y
      simp only at h0 h1 h2 HC
      have hyl := run_len (false, xs) (l.take k)
      generalize run (false, xs) (l.take k) = t at *
      obtain ⟨o, ys⟩ := t
      have HYl : Aside0 (ys.length = xs.length) := ⟨hyl⟩
      clear hyl
      have HI : Aside0 (Held w wr [chip g o ys, row (Kd.int .u8) 5 (.slice A5 xs.length c5) xs]) := ⟨hH.out⟩
      clear hy hH
      by_cases c0 : y0 = 0
      · subst c0
        cases o
        all_goals
          go_wp2_with (first
            | (go_at_call 11; (with_reducible refine (HLk.out _ HI.out.bel).mono ?_); rintro e w4 ⟨rfl, hd⟩; have HJ := Aside0.mk (HI.out.below hd.below); clear hd; obtain ⟨g0, g1, g2⟩ := HC.out _ HJ.out.bel)
            | (go_at_call 12; (with_reducible refine (locked_walk HJ.out).mono ?_); rintro e w5 ⟨rfl, rfl⟩))
          go_region_held3 (fun w' => w'.cell? (ad.add (k * 3)) = some (.int .u8 0) ∧ w'.cell? ⟨(ad.add (k * 3)).block, (ad.add (k * 3)).off + 1, none⟩ = some (.int .i64 y1) ∧ w'.cell? ⟨(ad.add (k * 3)).block, (ad.add (k * 3)).off + 2, none⟩ = some (.int .u8 y2)) (first | go_keep | exact HC.out _ HO.out.bel)
            ((first | (go_at_call 13; (with_reducible refine (write_walk HJ.out.drew y1 y2).mono ?_); rintro e w6 ⟨rfl, h⟩; obtain ⟨f0, f1, f2⟩ := HC.out _ h.bel; have HO := Aside0.mk h; clear h)))
          go_wp2
          go_quiet (fail)
          go_wp2
          go_roundw
          case rel => exact ⟨k + 1, by omega, by go_num, by rw [HS.out]; exact ⟨HO.out.drewN _⟩⟩
          case measure => simp [intOf]; omega
      · have d0 : (y0 == 0) = false := beq_eq_false_iff_ne.mpr c0
        have e0 : act (o, ys) ⟨y0, y1, y2⟩ = if y0 = 1 then (y2 == 165, ys) else (o, ys) := by unfold act; rw [if_neg c0]
        have HE := Lib.hid e0
        clear e0
        by_cases c1' : y0 = 1
        · subst c1'
          cases o
          all_goals
            go_wp2_with (first
              | (go_at_call 11; (with_reducible refine (HLk.out _ HI.out.bel).mono ?_); rintro e w4 ⟨rfl, hd⟩; have HJ := Aside0.mk (HI.out.below hd.below); clear hd; obtain ⟨g0, g1, g2⟩ := HC.out _ HJ.out.bel)
              | (go_at_call 12; (with_reducible refine (locked_walk HJ.out).mono ?_); rintro e w5 ⟨rfl, rfl⟩))
            go_quiet (fail)
            rename_i nq
            generalize hw6 : w4.drewN nq = w6
            have HJ2 := Aside0.mk (HJ.out.drewN nq)
            rw [hw6] at HJ2
            clear hw6 HJ g0 g1 g2
            obtain ⟨g0, g1, g2⟩ := HC.out _ HJ2.out.bel
            go_wp2
            go_still_tail 8, (by kernel_rfl)
            go_wp2_with (go_at_call 14; (with_reducible refine (latch_walk HJ2.out.drew y2).mono ?_); rintro e w7 ⟨rfl, h⟩; obtain ⟨f0, f1, f2⟩ := HC.out _ h.bel; have HO := Aside0.mk h; clear h)
            go_quiet (fail)
            go_wp2
            go_roundw
            case rel => exact ⟨k + 1, by omega, by go_num, by rw [HS.out, HE.out, if_pos trivial]; exact ⟨HO.out.drewN _⟩⟩
            case measure => simp [intOf]; omega
        · have d1 : (y0 == 1) = false := beq_eq_false_iff_ne.mpr c1'
          rw [if_neg c1'] at HE
          clear c0 c1'
          by_cases c2' : y0 = 2
          · subst c2'
            obtain ⟨m, hm⟩ : ∃ m, (if 0 < y1 then y1 else 0) = m := ⟨_, rfl⟩
            have hm0 : 0 ≤ m := by rw [← hm]; split <;> omega
            obtain ⟨p, hp⟩ : ∃ p, m.tmod (xs.length : Int) = p := ⟨_, rfl⟩
            have hpx : place xs y1 = p := by unfold place mx; rw [hm, ← hp, Int.tmod_eq_emod_of_nonneg hm0]
            have hpy : place ys y1 = p := by unfold place; rw [HYl.out]; exact hpx
            obtain ⟨z, hz⟩ : ∃ z, rd ys p = z := ⟨_, rfl⟩
            have HPy : Aside0 (rd ys (place ys y1) = z) := ⟨by rw [hpy]; exact hz⟩
            have HBz : Aside0 (∀ W, Below w.heap.size w W → (Kd.int .u8).C W A5 xs.length xs → Calls Try.prog 16 #[.slice A5 xs.length c5, .slice (some ad) k c2, .int .i64 p] W fun e w' => e = .returned (.int .u8 z) ∧ Below W.heap.size W w') :=
              ⟨fun W h hr => by have := HBy.out W y1 h hr; rw [hpx] at this; simp only [hz] at this; exact this⟩
            have z1 : ((xs.length : Int) == 0) = false := beq_eq_false_iff_ne.mpr (by omega)
            have z2 : ((xs.length : Int) != 0) = true := bne_iff_ne.mpr (by omega)
            have z3 : ¬ (xs = []) := fun h => by rw [h] at hx0; simp at hx0
            clear hpx hpy hz HBy
            cases o
            all_goals
              go_wp2_with (first
                | (go_at_call 11; (with_reducible refine (HLk.out _ HI.out.bel).mono ?_); rintro e w4 ⟨rfl, hd⟩; have HJ := Aside0.mk (HI.out.below hd.below); clear hd; obtain ⟨g0, g1, g2⟩ := HC.out _ HJ.out.bel)
                | (go_at_call 12; (with_reducible refine (locked_walk HJ.out).mono ?_); rintro e w5 ⟨rfl, rfl⟩))
              go_quiet (fail)
              rename_i nq
              generalize hw6 : w4.drewN nq = w6
              have HJ2 := Aside0.mk (HJ.out.drewN nq)
              rw [hw6] at HJ2
              clear hw6 HJ g0 g1 g2
              obtain ⟨g0, g1, g2⟩ := HC.out _ HJ2.out.bel
              go_wp2
              go_region_held3 (fun w' => w'.cell? (ad.add (k * 3)) = some (.int .u8 2) ∧ w'.cell? ⟨(ad.add (k * 3)).block, (ad.add (k * 3)).off + 1, none⟩ = some (.int .i64 y1) ∧ w'.cell? ⟨(ad.add (k * 3)).block, (ad.add (k * 3)).off + 2, none⟩ = some (.int .u8 y2)) (first | go_keep | exact HC.out _ HP.out.bel | exact HC.out _ HO.out.bel)
                ((first
                  | (go_at_call 15; (with_reducible refine (read_is HJ2.out.drew HPy.out).mono ?_); rintro e w7 ⟨rfl, h⟩; have HO := Aside0.mk h; clear h)
                  | (go_at_call 16; (with_reducible refine (HBz.out _ HO.out.bel (row_reads HO.out.swap).2.2).mono ?_); rintro e w8 ⟨rfl, h⟩; have HP := Aside0.mk (HO.out.below h); clear h)))
              all_goals
                go_wp2
                go_roundw
                case rel => exact ⟨k + 1, by omega, by go_num, by rw [HS.out, HE.out]; exact HP⟩
                case measure => simp [intOf]; omega
          · have d2 : (y0 == 2) = false := beq_eq_false_iff_ne.mpr c2'
            clear c2'
            cases o
            all_goals
              go_wp2_with (first
                | (go_at_call 11; (with_reducible refine (HLk.out _ HI.out.bel).mono ?_); rintro e w4 ⟨rfl, hd⟩; have HJ := Aside0.mk (HI.out.below hd.below); clear hd; obtain ⟨g0, g1, g2⟩ := HC.out _ HJ.out.bel)
                | (go_at_call 12; (with_reducible refine (locked_walk HJ.out).mono ?_); rintro e w5 ⟨rfl, rfl⟩))
              go_quiet (fail)
              go_wp2
              go_quiet (fail)
              go_wp2
              go_roundw
              case rel => exact ⟨k + 1, by omega, by go_num, by rw [HS.out, HE.out]; exact ⟨HJ.out.drewN _⟩⟩
              case measure => simp [intOf]; omega
    · obtain rfl : k = l.length := by omega
      rw [take_all] at hH
      have HRB := Aside0.mk (fun W h hr => ref_bytes_walk A5 A2 c5 c2 xs l W hr (row_reads hH.out.swap).2.1 hx0 hx1 (Kd.C_below HR2.out h) hc2 hl)
      have hyl := run_len (false, xs) l
      generalize run (false, xs) l = t at *
      obtain ⟨o, ys⟩ := t
      have hyl' : ys.length ≤ 100000 := by simp only at hyl; omega
      have HI : Aside0 (Held w wr [chip g o ys, row (Kd.int .u8) 5 (.slice A5 xs.length c5) xs]) := ⟨hH.out⟩
      clear hyl hH
      go_wp2_with (first
        | (go_at_call 18; (with_reducible refine (bytes_walk HI.out).mono ?_); rintro e w5 ⟨v5, rfl, h⟩; obtain ⟨A6, c6, rfl, hc6, _⟩ := h.row_at; have HJ := Aside0.mk h; clear h)
        | (go_at_call 19; (with_reducible refine (HRB.out _ HJ.out.bel (row_reads HJ.out.third).2.2).mono ?_); rintro e w7 ⟨v7, rfl, hR, hb7⟩; obtain ⟨A7, c7, rfl⟩ := Kd.R_slice hR; have HR7 := Aside0.mk (Kd.R_reads' hR); have HK := Aside0.mk (HJ.out.below hb7); clear hR hb7)
        | (go_at_call 17; (with_reducible refine (same_yes (row_reads HK.out).2.2 (row_reads HK.out).2.1 HR7.out.2.2 HR7.out.2.1 hyl').mono ?_); rintro e w8 ⟨rfl, hd⟩; have HL := Aside0.mk (HK.out.below hd.below); clear hd))
      go_ret
      exact ⟨rfl, HL.out.bel⟩
theorem sramPlays_early (u : Int) (A1 : Option Addr) (c1 : Nat) (b : List Int) (A2 : Option Addr) (c2 : Nat) (l : List Op) (w : World) (hu : 0 ≤ u ∧ u ≤ 255) (h : 40 < b.length ∨ 60 < l.length) :
    Calls Try.prog 3 #[.int .u8 u, .slice A1 b.length c1, .slice A2 l.length c2] w fun e w' => e = .returned (.bool true) ∧ Below w.heap.size w w' := by
  have HW := Lib.hid (awake_walk (Held.nil w))
  obtain ⟨hu0, hu1⟩ := hu
  rcases h with h | h
  · go_enter Try.func3, Try.ntmps3
    go_wp2_with (go_at_call 8; (with_reducible refine HW.out.mono ?_); rintro e w1 ⟨rfl, h⟩; have HA := Aside0.mk h; clear h)
    go_ret
    exact ⟨rfl, HA.out.bel⟩
  · by_cases h1 : 40 < b.length
    all_goals
      go_enter Try.func3, Try.ntmps3
      go_wp2_with (go_at_call 8; (with_reducible refine HW.out.mono ?_); rintro e w1 ⟨rfl, h⟩; have HA := Aside0.mk h; clear h)
      go_ret
      exact ⟨rfl, HA.out.bel⟩
theorem sramPlays_walk (u : Int) (A1 : Option Addr) (c1 : Nat) (b : List Int) (A2 : Option Addr) (c2 : Nat) (l : List Op) (w : World) (hu : (Lit.int .u8 u).wf = true)
    (hr1 : (Kd.int .u8).C w A1 b.length b) (hc1 : b.length ≤ c1) (hb1 : ∀ x ∈ b, (Lit.int .u8 x).wf = true) (hr2 : Kd.C k34 w A2 l.length l) (hc2 : l.length ≤ c2) (hw2 : ∀ p ∈ l, OpWf p) :
    Calls Try.prog 3 #[.int .u8 u, .slice A1 b.length c1, .slice A2 l.length c2] w fun e w' => e = .returned (.bool true) ∧ Below w.heap.size w w' := by
  by_cases h : 40 < b.length ∨ 60 < l.length
  · exact sramPlays_early u A1 c1 b A2 c2 l w (u8_bd hu) h
  · exact sramPlays_main u A1 c1 b A2 c2 l w (u8_bd hu) hr1 hc1 hr2 hc2 (by omega) (by omega)
end Go.Proofs.Ytehjfcfnnpjedaa.Given
