/- FlashErases: a sector that is erased is ff, and no other one is changed; erased at once all is: for every input. -/
import Derived.Test.YtpkgpcolngoicaaAx1
import Derived.Test.YtpkgpcolngoicaaFErasePlan
set_option linter.unusedVariables false
set_option linter.unusedSimpArgs false
namespace Go.Proofs.Ytpkgpcolngoicaa.Given
open Go.RowKit Go.Proofs.Ytpkgpcolngoicaa.All Go.Proofs.Ytpkgpcolngoicaa.Sep Go.Proofs.YtpkgpcolngoicaaW.PrintWords Go.Proofs.YtpkgpcolngoicaaW.PrintLast Go.Proofs.YtpkgpcolngoicaaW.PrintMore
attribute [local go_sem] max2_int min2_int max_two min_two

theorem flashErases_long (a0 : Int) (A : Option Addr) (c : Nat) (l : List Int) (a2 : Int) (w : World) (hw : 0 ≤ a0 ∧ a0 ≤ 255) (hle : 40 < (l.length : Int)) :
    Calls Try.prog 4 #[.int .u8 a0, .slice A l.length c, .int .u16 a2] w fun e w' => e = .returned (.bool true) ∧ Below w.heap.size w w' := by
  have HW := Lib.hid (awake_walk (Held.nil w))
  go_enter Try.func4, Try.ntmps4
  go_wp2_with (go_at_call 11; (with_reducible refine HW.out.mono ?_); rintro e w1 ⟨rfl, h⟩; have HA := Aside0.mk h; clear h)
  go_ret
  exact ⟨rfl, HA.out.bel⟩
theorem fill_255_walk {w0 w : World} {ts : List Thing} (h : Held w0 w ts) {m : Int} {zs : List Int} (h0 : 0 ≤ m) (h1 : m ≤ 100000) (hz : fillOf [255] m = zs) :
    Calls Try.prog 22 #[.slice (some ⟨w.heap.size, 0, none⟩) 1 1, .int .i64 m] (w.alloc (.cells #[.int .u8 255] 5)) fun e w' => ∃ A c, e = .returned (.slice A zs.length c) ∧ zs.length ≤ c ∧ Held w0 w' (row (Kd.int .u8) 5 (.slice A zs.length c) zs :: ts) := by
  subst hz
  obtain ⟨hF, hL⟩ := fill_f [255] (by simp) m h0 h1
  refine (keepsakeref10_Fill.calls _ _ _ [255] _ (fillOf [255] m) _ (c_one w 255) (Nat.le_refl _) hF).mono ?_
  rintro e w1 ⟨v1, rfl, hR, hb1⟩
  obtain ⟨A1, c1, rfl⟩ := Kd.R_slice hR
  have hh := (h.alloc (.cells #[.int .u8 255] 5)).row_new hR hb1
  exact ⟨A1, c1, rfl, (row_cap hh).1, hh⟩
set_option maxHeartbeats 3200000 in
set_option maxRecDepth 20000 in
theorem flashErases_short (a0 : Int) (A : Option Addr) (c : Nat) (l : List Int) (a2 : Int) (w : World) (hr : (Kd.int .u8).C w A l.length l) (hc : l.length ≤ c) (hw : 0 ≤ a0 ∧ a0 ≤ 255) (hw2 : 0 ≤ a2 ∧ a2 ≤ 65535) (hle : (l.length : Int) ≤ 40) :
    Calls Try.prog 4 #[.int .u8 a0, .slice A l.length c, .int .u16 a2] w fun e w' => e = .returned (.bool true) ∧ Below w.heap.size w w' := by
  have HW := Lib.hid (awake_walk (Held.nil w))
  obtain ⟨n, hn⟩ : ∃ n, 1 + a0 % 4 = n := ⟨_, rfl⟩
  have hn0 : 1 ≤ n := by omega
  have hn1 : n ≤ 4 := by omega
  obtain ⟨m, hm⟩ : ∃ m, 256 * n = m := ⟨_, rfl⟩
  obtain ⟨hm0, hm1⟩ : 256 ≤ m ∧ m ≤ 1024 := by omega
  have hp0 : 0 ≤ a2 % m := Int.emod_nonneg _ (by omega)
  have hp1 : a2 % m < m := Int.emod_lt_of_pos _ (by omega)
  obtain ⟨p, hp⟩ : ∃ p : Nat, a2 % m = p := ⟨(a2 % m).toNat, by omega⟩
  rw [hp] at hp0 hp1
  obtain ⟨_, hL⟩ := fill_f l (by omega) (256 * n) (by omega) (by omega)
  have HM : Hid (∀ W, Held w W [] → Calls Try.prog 12 #[.int .i64 n, .slice A l.length c] W (Got w (newS n (fillOf l (256 * n))) [])) := Lib.hid (fun W h => made_walk A c n l h (Kd.C_below hr h.bel) hc (by omega) hn0 hn1)
  have hi : Idle (newS n (fillOf l (256 * n))) := idle_new hn0 hn1 hL
  have hfz := fill_255n n hn0 hn1
  have hL2 := hL
  rw [hm] at hL HM hi hfz
  rw [hm] at hL2
  generalize fillOf l m = xs at hL HM hi hL2
  have hxn : 0 < xs.length := by omega
  have hxl : xs.length ≤ 100000 := by omega
  obtain ⟨b, s99, d, b2, d2, ys, zs, hr1, hr2, ⟨hbl, hbg, hbt⟩, ⟨h9l, h9d, h9g, h9t⟩, hdd, hyl, hyr, ⟨h2l, h2g, h2t⟩, h2d, hz⟩ := erase_plan hi (by omega) p (by omega)
  have hzl : zs.length = xs.length := by rw [hz, List.length_replicate]
  have hfz2 : fillOf [255] m = zs := by rw [hfz, hz]; congr 1; omega
  have hyn : 0 < ys.length := by omega
  have hzn : 0 < zs.length := by omega
  have hb1 : ((xs.length : Int) != m) = false := by rw [hL]; simp
  have hb2 : ((ys.length : Int) != m) = false := by rw [hyl, hL]; simp
  have HR1 : Hid (∀ (w0 w : World) (ts : List Thing) (g : Nat), _) := Lib.hid (fun w0 w ts g => hr1 (w0 := w0) (w := w) (ts := ts) (g := g))
  have HR2 : Hid (∀ (w0 w : World) (ts : List Thing) (g : Nat), _) := Lib.hid (fun w0 w ts g => hr2 (w0 := w0) (w := w) (ts := ts) (g := g))
  have HXD : Aside0 ((newS n xs).data = xs) := ⟨rfl⟩
  generalize newS n xs = s0 at *
  have T99 : Aside0 (((99 : Nat) : Int) = 99) := ⟨rfl⟩
  have T100 : Aside0 (((100 : Nat) : Int) = 100) := ⟨rfl⟩
  have T200 : Aside0 (((200 : Nat) : Int) = 200) := ⟨rfl⟩
  have T1 : Aside0 (((1 : Nat) : Int) = 1) := ⟨rfl⟩
  have T99b : Aside0 (99 ≤ 100 ∧ 0 < 100 ∧ 100 ≤ 1000) := ⟨by omega⟩
  have T200b : Aside0 (200 ≤ 200 ∧ 0 < 200 ∧ 200 ≤ 1000) := ⟨by omega⟩
  have T1b : Aside0 (1 ≤ 1 ∧ 0 < 1 ∧ 1 ≤ 1000) := ⟨by omega⟩
  have HBL := Aside0.mk hbl
  have HBG := Aside0.mk hbg
  have HBT := Aside0.mk hbt
  have H9L := Aside0.mk h9l
  have H9D := Aside0.mk h9d
  have H9G := Aside0.mk h9g
  have H9T := Aside0.mk h9t
  have HDD := Aside0.mk hdd
  have HYR := Aside0.mk hyr
  have H2L := Aside0.mk h2l
  have H2G := Aside0.mk h2g
  have H2T := Aside0.mk h2t
  have H2D := Aside0.mk h2d
  have HYL := Aside0.mk hyl
  have HZL := Aside0.mk hzl
  have HFZ := Aside0.mk hfz2
  clear hr hr1 hr2 hbl hbg hbt h9l h9d h9g h9t hdd hyr h2l h2g h2t h2d hyl hzl hfz hfz2 hz hi hL2
  have HLX := Aside0.mk hL
  clear hL
  go_enter Try.func4, Try.ntmps4
  go_wp2_with (first
    | (go_at_call 11; (with_reducible refine HW.out.mono ?_); rintro e w1 ⟨rfl, h⟩; have HA := Aside0.mk h; clear h)
    | (go_at_call 12; (with_reducible refine (HM.out _ HA.out).mono ?_); intro e w2 hmd; obtain ⟨g, rfl, hmd⟩ := hmd; have HB := Aside0.mk hmd; clear hmd)
    | (go_at_call 13; (with_reducible refine (bytes_at HB.out HXD.out hxn).mono ?_); rintro e w3 ⟨q1, c1, rfl, h1, h⟩; have HC1 := Aside0.mk h1; have HC := Aside0.mk h.swap; obtain ⟨lp, hq1, hq2, hq3⟩ := HR1.out _ _ _ _ h.swap; have HQ1 := Lib.hid hq1; have HQ2 := Aside0.mk hq2; have HQ3 := Aside0.mk hq3; clear h h1 hq1 hq2 hq3)
    | (go_at_call 20; (with_reducible refine HQ1.out.mono ?_); rintro e w4 ⟨A2, c2, rfl, h⟩; have HD := Aside0.mk h; clear h)
    | (go_at_call 14; (with_reducible refine (puts_row HD.out HQ2.out HQ3.out).mono ?_); rintro e w5 ⟨rfl, h⟩; have HE := Aside0.mk h; clear h)
    | (go_at_call 16; (with_reducible refine (ticks_at 99 (mi := 99) T99.out HE.out (n := 100) (ni := 100) T100.out HBL.out HBG.out T99b.out HBT.out).mono ?_); rintro e w6 ⟨rfl, h⟩; have HF := Aside0.mk h; clear h)
    | (go_at_call 13; (with_reducible refine (bytes_at HF.out H9D.out hxn).mono ?_); rintro e w7 ⟨q2, c3, rfl, h1, h⟩; have HC3 := Aside0.mk h1; have HI := Aside0.mk h; clear h h1)
    | (go_at_call 17; (with_reducible refine (same_rows (row_reads HI.out) (row_reads HI.out.third) rfl HC3.out HC1.out hxl).mono ?_); rintro e w8 ⟨rfl, hd⟩; have HJ := Aside0.mk (HI.out.drop.below hd.below); clear hd)
    | (go_at_call 16; (with_reducible refine (ticks_at 1 (mi := 1) T1.out HJ.out (n := 1) (ni := 1) T1.out H9L.out H9G.out T1b.out H9T.out).mono ?_); rintro e w10 ⟨rfl, h⟩; have HK := Aside0.mk h; clear h)
    | (go_at_call 13; (with_reducible refine (bytes_at HK.out HDD.out hyn).mono ?_); rintro e w11 ⟨q3, c4, rfl, h1, h⟩; have HC4 := Aside0.mk h1; have HN := Aside0.mk h; clear h h1))
  clear HW HM HA HB HC HD HE HF HI HJ HK HQ1 HQ2 HQ3 HR1 T99 T100 T99b T1b HBL HBG HBT H9L H9D H9G H9T HXD
  go_loopw [14] (fun i wr => ∃ k : Nat, k ≤ xs.length ∧ i = .int .i64 k ∧ Aside0 (Held w wr (row (Kd.int .u8) 5 (.slice (some ⟨q3, 0, none⟩) ys.length c4) ys :: fl g d :: row (Kd.int .u8) 5 (.slice (some ⟨q1, 0, none⟩) xs.length c1) xs :: []))) (fun i _ => xs.length - (intOf i).toNat)
  case atStart => exact ⟨0, Nat.zero_le _, rfl, HN⟩
  case round =>
    obtain ⟨k, hk, rfl, hH⟩ := hrel
    clear HN
    by_cases hlt : k < xs.length
    · have hlt' : (k : Int) < m := by rw [← HLX.out]; omega
      have hk0 : (0 : Int) ≤ (k : Int) := by omega
      have hk1 : (k : Int) < (ys.length : Int) := by rw [HYL.out]; omega
      have hk2 : (k : Int) < (xs.length : Int) := by omega
      have hq : (k : Int) / 256 = ((k / 256 : Nat) : Int) := by omega
      have hq2 : (p : Int) / 256 = ((p / 256 : Nat) : Int) := by omega
      have hwk : IntKind.i64.wrap ((k : Int) / 256) = (k : Int) / 256 := by rw [IntKind.wrap_i64]; omega
      have hwp : IntKind.i64.wrap ((p : Int) / 256) = (p : Int) / 256 := by rw [IntKind.wrap_i64]; omega
      obtain ⟨x, hx⟩ : ∃ x, rd xs (k : Int) = x := ⟨_, rfl⟩
      have hy := HYR.out k hlt
      rw [hx] at hy
      obtain ⟨cx, _⟩ := row_cell hH.out.third (k : Int) hk0 hk2 hx
      rw [Int.toNat_natCast] at cx
      by_cases hs : k / 256 = p / 256
      · rw [if_pos hs] at hy
        obtain ⟨cy, _⟩ := row_cell hH.out (k : Int) hk0 hk1 hy
        rw [Int.toNat_natCast] at cy
        have e1 : ((k : Int) / 256 == (p : Int) / 256) = true := by rw [hq, hq2, hs]; simp
        have e2 : ((k : Int) / 256 != (p : Int) / 256) = false := by rw [hq, hq2, hs]; simp
        have hne : ¬ xs = [] := by intro e; rw [e] at hxn; exact absurd hxn (by decide)
        clear hq hq2 hs hy hx
        go_wp2
        go_quiet (fail)
        rename_i nq
        have HO2 := Aside0.mk (hH.out.below (pw_below_drewN (Below.refl _ _) nq))
        go_wp2
        go_roundw
        case rel => exact ⟨k + 1, by omega, by go_num, HO2⟩
        case measure => simp [intOf]; omega
      · rw [if_neg hs] at hy
        obtain ⟨cy, _⟩ := row_cell hH.out (k : Int) hk0 hk1 hy
        rw [Int.toNat_natCast] at cy
        have e1 : ((k : Int) / 256 == (p : Int) / 256) = false := beq_eq_false_iff_ne.2 (by omega)
        have e2 : ((k : Int) / 256 != (p : Int) / 256) = true := bne_iff_ne.2 (by omega)
        clear hq hq2 hs hy hx
        go_wp2
        go_quiet (fail)
        rename_i nq
        have HO2 := Aside0.mk (hH.out.below (pw_below_drewN (Below.refl _ _) nq))
        go_wp2
        go_roundw
        case rel => exact ⟨k + 1, by omega, by go_num, HO2⟩
        case measure => simp [intOf]; omega
    · obtain rfl : k = xs.length := by omega
      have hlt' : ¬ (xs.length : Int) < m := by rw [← HLX.out]; omega
      obtain ⟨lp2, hq1, hq2, hq3⟩ := HR2.out _ _ _ _ hH.out.drop
      have HQ1 := Lib.hid hq1
      have HQ2 := Aside0.mk hq2
      have HQ3 := Aside0.mk hq3
      clear hq1 hq2 hq3
      go_wp2_with (first
        | (go_at_call 21; (with_reducible refine HQ1.out.mono ?_); rintro e v4 ⟨A3, c5, rfl, h⟩; have HD := Aside0.mk h; clear h)
        | (go_at_call 14; (with_reducible refine (puts_row HD.out HQ2.out HQ3.out).mono ?_); rintro e v5 ⟨rfl, h⟩; have HE := Aside0.mk h; clear h)
        | (go_at_call 18; (with_reducible refine (left_is HE.out H2L.out).mono ?_); rintro e v6 ⟨rfl, rfl⟩)
        | (go_at_call 16; (with_reducible refine (ticks_at 200 (mi := 200) T200.out HE.out (n := 200) (ni := 200) T200.out H2L.out H2G.out T200b.out H2T.out).mono ?_); rintro e v7 ⟨rfl, h⟩; have HF := Aside0.mk h; clear h)
        | (go_at_call 13; (with_reducible refine (bytes_at HF.out H2D.out hzn).mono ?_); rintro e v8 ⟨q4, c6, rfl, h1, h⟩; have HC6 := Aside0.mk h1; have HI := Aside0.mk h; clear h h1)
        | (go_at_call 22; (with_reducible refine (fill_255_walk HI.out (by omega) (by omega) HFZ.out).mono ?_); rintro e v9 ⟨A5, c7, rfl, h1, h⟩; have HC7 := Aside0.mk h1; have HJ := Aside0.mk h; clear h h1)
        | (go_at_call 17; (with_reducible refine (same_rows (row_reads HJ.out.swap) (row_reads HJ.out) rfl HC6.out HC7.out (by rw [HZL.out]; exact hxl)).mono ?_); rintro e v10 ⟨rfl, hd⟩; have HK := Aside0.mk (HJ.out.below hd.below); clear hd))
      go_ret
      exact ⟨rfl, HK.out.bel⟩
theorem flashErases_walk (a0 : Int) (A : Option Addr) (c : Nat) (l : List Int) (a2 : Int) (w : World) (w0 : (Lit.int .u8 a0).wf = true) (hr : (Kd.int .u8).C w A l.length l) (hc : l.length ≤ c) (hb : ∀ x ∈ l, (Lit.int .u8 x).wf = true) (w2 : (Lit.int .u16 a2).wf = true) :
    Calls Try.prog 4 #[.int .u8 a0, .slice A l.length c, .int .u16 a2] w fun e w' => e = .returned (.bool true) ∧ Below w.heap.size w w' := by
  simp [Lit.wf, IntKind.min, IntKind.max, IntKind.signed, IntKind.bits] at w0 w2
  by_cases hle : (l.length : Int) ≤ 40
  · exact flashErases_short a0 A c l a2 w hr hc (by omega) (by omega) hle
  · exact flashErases_long a0 A c l a2 w (by omega) (by omega)
end Go.Proofs.Ytpkgpcolngoicaa.Given
