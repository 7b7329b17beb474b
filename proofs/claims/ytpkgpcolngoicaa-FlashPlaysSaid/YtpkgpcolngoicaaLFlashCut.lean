/- FlashCut: when power fails no place is apart but those that the chip is busy with: for every input. -/
import Derived.Test.YtpkgpcolngoicaaAx3
import Derived.Test.YtpkgpcolngoicaaAx1
import Derived.Test.YtpkgpcolngoicaaFInv
import Derived.Test.YtpkgpcolngoicaaPOps
set_option linter.unusedVariables false
set_option linter.unusedSimpArgs false
namespace Go.Proofs.Ytpkgpcolngoicaa.Given
open Go.RowKit Go.Proofs.Ytpkgpcolngoicaa.All Go.Proofs.Ytpkgpcolngoicaa.Sep Go.Proofs.YtpkgpcolngoicaaW.PrintWords Go.Proofs.YtpkgpcolngoicaaW.PrintLast Go.Proofs.YtpkgpcolngoicaaW.PrintMore
attribute [local go_sem] max2_int min2_int max_two min_two

theorem ops_at {w0 : World} {A : Option Addr} {l : List SOP} (hr : Kd.C kOP w0 A l.length l) (k : Nat) (hk : k < l.length) :
    ∃ ad, A = some ad ∧ ∀ W, Below w0.heap.size w0 W → W.cell? (ad.add (k * 3)) = some (.int .u8 (rd_OP l k).f0) ∧ W.cell? ⟨(ad.add (k * 3)).block, (ad.add (k * 3)).off + 1, none⟩ = some (.int .i64 (rd_OP l k).f1) ∧ W.cell? ⟨(ad.add (k * 3)).block, (ad.add (k * 3)).off + 2, none⟩ = some (.int .u8 (rd_OP l k).f2) := by
  obtain ⟨ad, e, _⟩ := at_OP hr (k : Int) (by omega) (by omega)
  refine ⟨ad, e, fun W hb => ?_⟩
  obtain ⟨ad', e', h⟩ := at_OP (Kd.C_below hr hb) (k : Int) (by omega) (by omega)
  rw [e] at e'
  injection e' with e'
  subst e'
  exact h
theorem op_wf {l : List SOP} (hb : ∀ p ∈ l, OpWf p) (k : Nat) (hk : k < l.length) : OpWf (rd_OP l k) := by
  unfold rd_OP
  rw [Int.toNat_natCast, List.getD_eq_getElem?_getD, List.getElem?_eq_getElem hk]
  exact hb _ (List.getElem_mem hk)
theorem u8_of {x : Int} (h : (Lit.int .u8 x).wf = true) : 0 ≤ x ∧ x ≤ 255 := by
  simp [Lit.wf, IntKind.min, IntKind.max, IntKind.signed, IntKind.bits] at h
  omega
theorem fifth {w0 w : World} {a b c d e : Thing} {ts : List Thing} (h : Held w0 w (a :: b :: c :: d :: e :: ts)) : Held w0 w (e :: a :: b :: c :: d :: ts) :=
  (h.perm (List.Perm.cons a (List.Perm.cons b ((List.Perm.cons c (.swap e d ts)).trans (.swap e c (d :: ts)))))).third.swap.swap
theorem rowk_cell {kd : IntKind} {T : TypeId} {w0 w : World} {ts : List Thing} {A : Option Addr} {n c : Nat} {xs : List Int} (h : Held w0 w (row (Kd.int kd) T (.slice A n c) xs :: ts)) (k : Nat) (hk : k < xs.length) {y : Int} (hy : rd xs (k : Int) = y) :
    ∃ ad : Addr, A = some ad ∧ w.cell? (ad.add k) = some (.int kd y) := by
  obtain ⟨ad, e, hc⟩ := (Kd.reads_of_C (enc := Value.int kd) (d := (0 : Int)) (h1 := fun _ => rfl) (row_reads h)).2.2 (by omega)
  have := hc k hk
  subst hy
  exact ⟨ad, e, this⟩
/-- What power leaves, its block known. -/
theorem cut_at {w0 w : World} {ts : List Thing} {g : Nat} {s : FS} {n : Int} {zs : List Int} (h : Held w0 w (fl g s :: ts)) (hi : FInv n s) (hn : n ≤ 4) {A : Option Addr} {c : Nat} {pick : List Int} (hp : (Kd.int .u8).C w A pick.length pick) (hc : pick.length ≤ c) (hz : cutS s pick = zs) (hpos : 0 < zs.length) :
    Calls Try.prog 32 #[ptr g, .slice A pick.length c] w fun e w' => ∃ q c, e = .returned (.slice (some ⟨q, 0, none⟩) zs.length c) ∧ zs.length ≤ c ∧ Held w0 w' (row (Kd.int .u8) 5 (.slice (some ⟨q, 0, none⟩) zs.length c) zs :: fl g s :: ts) := by
  subst hz
  refine (cut_walk h A c pick hp hc (by have := hi.good.fm; have := hi.good.f0; have := hi.len; omega)).mono fun e w' ⟨v, he, hh⟩ => ?_
  obtain ⟨A, c, rfl, hc, _⟩ := hh.row_at
  obtain ⟨q, rfl⟩ := row_block hh hpos
  exact ⟨q, c, he, hc, hh⟩
theorem cut_none {w0 w : World} {ts : List Thing} {g : Nat} {s : FS} {n : Int} {xs : List Int} (h : Held w0 w (fl g s :: ts)) (hi : FInv n s) (hn : n ≤ 4) (hx : s.data = xs) (hpos : 0 < xs.length) :
    Calls Try.prog 32 #[ptr g, .slice none 0 0] w fun e w' => ∃ q c, e = .returned (.slice (some ⟨q, 0, none⟩) xs.length c) ∧ xs.length ≤ c ∧ Held w0 w' (row (Kd.int .u8) 5 (.slice (some ⟨q, 0, none⟩) xs.length c) xs :: fl g s :: ts) :=
  cut_at (A := none) (c := 0) (pick := []) h hi hn (Kd.C_nil _ _) (Nat.le_refl _) (by rw [cut_nil hi, hx]) hpos
set_option maxRecDepth 20000 in
theorem flashCut_long (a0 : Int) (A : Option Addr) (c : Nat) (l : List Int) (A2 : Option Addr) (c2 : Nat) (l2 : List SOP) (A3 : Option Addr) (c3 : Nat) (l3 : List Int) (w : World) (hw : 0 ≤ a0 ∧ a0 ≤ 255) (hle : 40 < (l.length : Int) ∨ 120 < (l2.length : Int) ∨ 300 < (l3.length : Int)) :
    Calls Try.prog 10 #[.int .u8 a0, .slice A l.length c, .slice A2 l2.length c2, .slice A3 l3.length c3] w fun e w' => e = .returned (.bool true) ∧ Below w.heap.size w w' := by
  have HW := Lib.hid (awake_walk (Held.nil w))
  by_cases h40 : 40 < (l.length : Int)
  · clear hle
    go_enter Try.func10, Try.ntmps10
    go_wp2_with (go_at_call 11; (with_reducible refine HW.out.mono ?_); rintro e w1 ⟨rfl, h⟩; have HA := Aside0.mk h; clear h)
    go_ret
    exact ⟨rfl, HA.out.bel⟩
  · by_cases h120 : 120 < (l2.length : Int)
    · clear hle
      go_enter Try.func10, Try.ntmps10
      go_wp2_with (go_at_call 11; (with_reducible refine HW.out.mono ?_); rintro e w1 ⟨rfl, h⟩; have HA := Aside0.mk h; clear h)
      go_ret
      exact ⟨rfl, HA.out.bel⟩
    · have h300 : 300 < (l3.length : Int) := by omega
      clear hle
      go_enter Try.func10, Try.ntmps10
      go_wp2_with (go_at_call 11; (with_reducible refine HW.out.mono ?_); rintro e w1 ⟨rfl, h⟩; have HA := Aside0.mk h; clear h)
      go_ret
      exact ⟨rfl, HA.out.bel⟩
set_option maxHeartbeats 6400000 in
set_option maxRecDepth 20000 in
theorem flashCut_short (a0 : Int) (A : Option Addr) (c : Nat) (l : List Int) (A2 : Option Addr) (c2 : Nat) (l2 : List SOP) (A3 : Option Addr) (c3 : Nat) (l3 : List Int) (w : World) (hr : (Kd.int .u8).C w A l.length l) (hc : l.length ≤ c) (hbl : Bytes l) (hr2 : Kd.C kOP w A2 l2.length l2) (hb2 : ∀ p ∈ l2, OpWf p) (hr3 : (Kd.int .u8).C w A3 l3.length l3) (hc3 : l3.length ≤ c3) (hb3 : Bytes l3) (hw : 0 ≤ a0 ∧ a0 ≤ 255) (hle : (l.length : Int) ≤ 40) (hle2 : (l2.length : Int) ≤ 120) (hle3 : (l3.length : Int) ≤ 300) :
    Calls Try.prog 10 #[.int .u8 a0, .slice A l.length c, .slice A2 l2.length c2, .slice A3 l3.length c3] w fun e w' => e = .returned (.bool true) ∧ Below w.heap.size w w' := by
  have HW := Lib.hid (awake_walk (Held.nil w))
  obtain ⟨n, hn⟩ : ∃ n, 1 + a0 % 4 = n := ⟨_, rfl⟩
  have hn0 : 1 ≤ n := by omega
  have hn1 : n ≤ 4 := by omega
  obtain ⟨m, hm⟩ : ∃ m, 256 * n = m := ⟨_, rfl⟩
  obtain ⟨hm0, hm1⟩ : 256 ≤ m ∧ m ≤ 1024 := by omega
  obtain ⟨_, hL⟩ := fill_f l (by omega) (256 * n) (by omega) (by omega)
  have HM : Hid (∀ W, Held w W [] → Calls Try.prog 12 #[.int .i64 n, .slice A l.length c] W (Got w (newS n (fillOf l (256 * n))) [])) := Lib.hid (fun W h => made_walk A c n l h (Kd.C_below hr h.bel) hc (by omega) hn0 hn1)
  have HI0 := Aside0.mk (inv_new hL (fill_bytes hbl (256 * n)))
  generalize newS n (fillOf l (256 * n)) = s0 at *
  have HR2 := Aside0.mk hr2
  have HB2 := Aside0.mk hb2
  have HR3 := Aside0.mk hr3
  have HB3 := Aside0.mk hb3
  have HN := Aside0.mk hn1
  clear hr hr2 hr3 hb2 hb3 hbl hL
  go_enter Try.func10, Try.ntmps10
  go_wp2_with (first
    | (go_at_call 11; (with_reducible refine HW.out.mono ?_); rintro e w1 ⟨rfl, h⟩; have HA := Aside0.mk h; clear h)
    | (go_at_call 12; (with_reducible refine (HM.out _ HA.out).mono ?_); intro e w2 hmd; obtain ⟨g, rfl, hmd⟩ := hmd; have HB := Aside0.mk hmd; clear hmd))
  clear HW HM HA
  go_loopw [12] (fun i wr => ∃ (k : Nat) (s : FS), k ≤ l2.length ∧ i = .int .i64 k ∧ Aside0 (FInv n s) ∧ Aside0 (Held w wr (fl g s :: []))) (fun i _ => l2.length - (intOf i).toNat)
  case atStart => exact ⟨0, s0, Nat.zero_le _, rfl, HI0, HB⟩
  case round =>
    obtain ⟨k, s, hk, rfl, hI, hH⟩ := hrel
    clear HB HI0
    by_cases hlt : k < l2.length
    · obtain ⟨ad, rfl, hcl⟩ := ops_at HR2.out k hlt
      have HC := Lib.hid hcl
      obtain ⟨h0, h1, h2⟩ := hcl _ hH.out.bel
      obtain ⟨_, hw1, hw2⟩ := op_wf HB2.out k hlt
      have hy2 := u8_of hw2
      clear hcl hw1 hw2
      have hlt' : (k : Int) < (l2.length : Int) := by omega
      generalize hy : rd_OP l2 (k : Int) = y at *
      obtain ⟨y0, y1, y2⟩ := y
      simp only at h0 h1 h2 HC hy2
      clear hy
      by_cases c0 : y0 = 0
      · subst c0
        have HI2 := Aside0.mk (inv_write hI.out hn0 y1 y2 hy2)
        go_wp2
        go_still_tail 11, (by kernel_rfl)
        go_wp2_with (go_at_call 23; (with_reducible refine (write_walk hH.out.drew y1 y2).mono ?_); rintro e w4 ⟨rfl, h⟩; obtain ⟨f0, f1, f2⟩ := HC.out _ h.bel; have HO := Aside0.mk h; clear h)
        go_loopw [13] (fun j wj => j = .int .i64 0 ∧ Aside0 (Held w wj (fl g (writeS s y1 y2) :: []))) (fun _ _ => 0)
        case atStart => exact ⟨rfl, HO⟩
        case round =>
          obtain ⟨rfl, hO2⟩ := hrel
          obtain ⟨e0, _, _⟩ := HC.out _ hO2.out.bel
          clear HO f0 f1 f2
          go_wp2
          go_roundw
          case rel => exact ⟨k + 1, _, by omega, by go_num, HI2, hO2⟩
          case measure => simp [intOf]; omega
      · have d0 : (y0 == 0) = false := beq_eq_false_iff_ne.2 c0
        clear c0
        go_wp2
        go_loopw [13] (fun j wj => ∃ (i : Nat) (t : FS), (i : Int) ≤ y2 ∧ j = .int .i64 i ∧ Aside0 (FInv n t) ∧ Aside0 (Held w wj (fl g t :: []))) (fun j _ => y2.toNat - (intOf j).toNat)
        case atStart => exact ⟨0, s, hy2.1, rfl, hI, hH⟩
        case round =>
          obtain ⟨i, t, hi, rfl, hJ, hO2⟩ := hrel
          obtain ⟨e0, _, e2⟩ := HC.out _ hO2.out.bel
          clear h0 h1 h2 hH hI
          by_cases c2 : y0 = 2
          · subst c2
            by_cases hil : (i : Int) < y2
            · have HJ2 := Aside0.mk (inv_tick hJ.out)
              go_wp2_with (go_at_call 24; (with_reducible refine (tick_walk hO2.out hJ.out.good).mono ?_); rintro e w5 ⟨rfl, h⟩; have HO3 := Aside0.mk h; clear h)
              go_roundw
              case rel => exact ⟨i + 1, _, by omega, by go_num, HJ2, HO3⟩
              case measure => simp [intOf]; omega
            · go_wp2
              go_roundw
              case rel => exact ⟨k + 1, t, by omega, by go_num, hJ, hO2⟩
              case measure => simp [intOf]; omega
          · have d2 : (y0 == 2) = false := beq_eq_false_iff_ne.2 c2
            clear c2
            go_wp2
            go_roundw
            case rel => exact ⟨k + 1, t, by omega, by go_num, hJ, hO2⟩
            case measure => simp [intOf]; omega
    · obtain rfl : k = l2.length := by omega
      have hlt' : ¬ (l2.length : Int) < (l2.length : Int) := by omega
      clear hlt hk
      have hI0 := hI.out
      obtain ⟨kk, hkk⟩ : ∃ x, s.wk = x := ⟨_, rfl⟩
      obtain ⟨ff, hff⟩ : ∃ x, s.wf = x := ⟨_, rfl⟩
      obtain ⟨mm, hmm⟩ : ∃ x, s.wm = x := ⟨_, rfl⟩
      obtain ⟨vv, hvv⟩ : ∃ x, s.wv = x := ⟨_, rfl⟩
      obtain ⟨lf, hlf⟩ : ∃ x, s.left = x := ⟨_, rfl⟩
      obtain ⟨xs, hxs⟩ : ∃ x, s.data = x := ⟨_, rfl⟩
      obtain ⟨zs, hzs⟩ : ∃ x, cutS s l3 = x := ⟨_, rfl⟩
      have hap := fun x hx => cut_apart hI0 hn1 l3 HB3.out x hx
      have hal := cut_apart_len s l3 (by have := hI0.len; omega)
      have hac := apart_walk_f s l3 (by have := hI0.len; omega)
      have hzl := cut_len s l3
      have hxl := hI0.len
      have hid := hI0.idle
      obtain ⟨_, _, hf0, hm0', hfm⟩ := hI0.good
      rw [hkk, hff, hmm, hxs, hzs] at hap
      rw [hxs, hzs] at hal hac hzl
      rw [hxs, hm] at hxl
      rw [hlf, hkk] at hid
      rw [hff, hmm, hxs] at hfm
      rw [hff] at hf0
      rw [hmm] at hm0'
      have hwv : waitV s = .agg #[.int .i64 kk, .int .i64 ff, .int .i64 mm, .int .u8 vv] := by unfold waitV; rw [hkk, hff, hmm, hvv]
      generalize Cut.apart xs zs = aps at *
      have hxn : 0 < xs.length := by omega
      have hzn : 0 < zs.length := by omega
      have hxle : xs.length ≤ 100000 := by omega
      have hb1 : ((xs.length : Int) != m) = false := by rw [hxl]; simp
      have hb2 : ((zs.length : Int) != m) = false := by rw [hzl, hxl]; simp
      have hb3 : ((kk == 0) == (lf == 0)) = true := by
        by_cases h : kk = 0
        · have := hid.2 h
          subst h this
          rfl
        · have h2 : ¬ lf = 0 := fun h2 => h (hid.1 h2)
          rw [beq_eq_false_iff_ne.2 h, beq_eq_false_iff_ne.2 h2]
          rfl
      have HWV := Aside0.mk hwv
      have HXS := Aside0.mk hxs
      have HZS := Aside0.mk hzs
      have HLF := Aside0.mk hlf
      have HAP := Aside0.mk hap
      have HAC := Aside0.mk hac
      have HZL := Aside0.mk hzl
      have HXN := Aside0.mk hxn
      clear hI0 hkk hff hmm hvv hlf hxs hzs hap hac hxl hid hwv hzl
      go_wp2_with (first
        | (go_at_call 27; (with_reducible refine (waits_is hH.out HWV.out).mono ?_); rintro e w4 ⟨rfl, h⟩; have HA := Aside0.mk (h.box_new #[.int .i64 kk, .int .i64 ff, .int .i64 mm, .int .u8 vv] 53).swap; clear h)
        | (go_at_call 13; (with_reducible refine (bytes_at HA.out HXS.out hxn).mono ?_); rintro e w5 ⟨q1, c5, rfl, h1, h⟩; have HC1 := Aside0.mk h1; have HB := Aside0.mk h; clear h h1)
        | (go_at_call 32; (with_reducible refine (cut_at HB.out.swap hI.out HN.out (Kd.C_below HR3.out HB.out.bel) hc3 HZS.out hzn).mono ?_); rintro e w6 ⟨q2, c6, rfl, h1, h⟩; have HC2 := Aside0.mk h1; have hbx := h.fourth.box_at.1; have b0 := cell_of_block hbx 0 (.int .i64 kk) rfl; have HD := Aside0.mk h; have HLq := Lib.hid (left_quiet h.swap HLF.out); clear h h1 hbx))
      clear hH HA HB
      go_quiet (first
        | (go_at_call 18; exact Calls.quiet_of_same (HLq.out _)))
      rename_i nq
      have HE := Aside0.mk (HD.out.below (pw_below_drewN (Below.refl _ _) nq))
      clear HD HLq b0
      generalize w6.drewN nq = w7 at *
      go_wp2_with (first
        | (go_at_call 34; (with_reducible refine (cut_Apart.calls _ _ _ xs _ _ zs aps _ (row_reads HE.out.third) HC1.out (row_reads HE.out) HC2.out HAC.out).mono ?_); rintro e w8 ⟨v8, rfl, hR, hb⟩; obtain ⟨A8, c8, rfl⟩ := Kd.R_slice hR; have HF := Aside0.mk (HE.out.row_new hR hb); clear hR hb))
      clear HE
      go_loopw [18] (fun i wr => ∃ k : Nat, k ≤ aps.length ∧ i = .int .i64 k ∧ Aside0 (Held w wr (row (Kd.int .i64) 3 (.slice A8 aps.length c8) aps :: row (Kd.int .u8) 5 (.slice (some ⟨q2, 0, none⟩) zs.length c6) zs :: fl g s :: row (Kd.int .u8) 5 (.slice (some ⟨q1, 0, none⟩) xs.length c5) xs :: box w4.heap.size #[.int .i64 kk, .int .i64 ff, .int .i64 mm, .int .u8 vv] 53 :: []))) (fun i _ => aps.length - (intOf i).toNat)
      case atStart => exact ⟨0, Nat.zero_le _, rfl, HF⟩
      case round =>
        obtain ⟨k, hk, rfl, hK⟩ := hrel
        clear HF
        by_cases hlt : k < aps.length
        · have hbx := (fifth hK.out).box_at.1
          have b0 := cell_of_block hbx 0 (.int .i64 kk) rfl
          have b1 := cell_of_block hbx 1 (.int .i64 ff) rfl
          have b2 := cell_of_block hbx 2 (.int .i64 mm) rfl
          obtain ⟨x, hx⟩ : ∃ x, rd aps (k : Int) = x := ⟨_, rfl⟩
          obtain ⟨ada, rfl, ca⟩ := rowk_cell hK.out k hlt hx
          have hxa : x ∈ aps := by
            rw [← hx]
            unfold rd
            rw [Int.toNat_natCast, List.getD_eq_getElem?_getD, List.getElem?_eq_getElem hlt]
            exact List.getElem_mem hlt
          obtain ⟨p0, p1, p2, p3, p4⟩ := HAP.out x hxa
          have p2z : x < (zs.length : Int) := by rw [HZL.out]; exact p2
          obtain ⟨u, hu⟩ : ∃ u, rd zs x = u := ⟨_, rfl⟩
          obtain ⟨v, hv⟩ : ∃ v, rd xs x = v := ⟨_, rfl⟩
          obtain ⟨cz, _⟩ := row_cell hK.out.swap x p3 p2z hu
          obtain ⟨cx, _⟩ := row_cell hK.out.fourth x p3 p2 hv
          rw [hu, hv] at p4
          have hlt' : (k : Int) < (aps.length : Int) := by omega
          have hk0 : ¬ (k : Int) < 0 := by omega
          have hx0 : ¬ x < 0 := by omega
          have hsum : IntKind.i64.wrap (ff + mm) = ff + mm := by rw [IntKind.wrap_i64]; omega
          have n0 : decide (x < ff) = false := decide_eq_false (by omega)
          have n1 : decide (ff + mm ≤ x) = false := decide_eq_false (by omega)
          have n2 : decide ((xs.length : Int) ≤ x) = false := decide_eq_false (by omega)
          clear hbx hx hu hv hxa
          by_cases hkk : kk = 1
          · have hand := p4 hkk
            have hkb : (kk == 1) = true := beq_iff_eq.2 hkk
            clear hkk p4
            go_wp2
            go_quiet (fail)
            have HO2 := Aside0.mk (hK.out.below (pw_below_drewN (Below.refl _ _) nq))
            go_wp2
            go_roundw
            case rel => exact ⟨k + 1, by omega, by go_num, HO2⟩
            case measure => simp [intOf]; omega
          · clear p4
            go_wp2
            go_quiet (fail)
            have HO2 := Aside0.mk (hK.out.below (pw_below_drewN (Below.refl _ _) nq))
            go_wp2
            go_roundw
            case rel => exact ⟨k + 1, by omega, by go_num, HO2⟩
            case measure => simp [intOf]; omega
        · obtain rfl : k = aps.length := by omega
          have hlt'' : ¬ (aps.length : Int) < (aps.length : Int) := by omega
          clear hlt
          go_wp2_with (first
            | (go_at_call 13; (with_reducible refine (bytes_at hK.out.third HXS.out hxn).mono ?_); rintro e v5 ⟨q3, d5, rfl, h1, h⟩; have HC3 := Aside0.mk h1; have HG := Aside0.mk h; clear h h1)
            | (go_at_call 17; (with_reducible refine (same_rows (row_reads HG2.out) (row_reads (fifth HG2.out)) rfl HC4.out HC1.out hxle).mono ?_); rintro e v8 ⟨rfl, hd⟩; have HG3 := Aside0.mk (HG2.out.below hd.below); clear hd)
            | (go_at_call 17; (with_reducible refine (same_rows (row_reads HG.out) (row_reads (fifth HG.out)) rfl HC3.out HC1.out hxle).mono ?_); rintro e v6 ⟨rfl, hd⟩; have HG1 := Aside0.mk (HG.out.drop.below hd.below); clear hd)
            | (go_at_call 32; (with_reducible refine (cut_none HG1.out hI.out HN.out HXS.out hxn).mono ?_); rintro e v7 ⟨q4, d6, rfl, h1, h⟩; have HC4 := Aside0.mk h1; have HG2 := Aside0.mk h; clear h h1))
          go_ret
          exact ⟨rfl, HG3.out.bel⟩
theorem flashCut_walk (a0 : Int) (A : Option Addr) (c : Nat) (l : List Int) (A2 : Option Addr) (c2 : Nat) (l2 : List SOP) (A3 : Option Addr) (c3 : Nat) (l3 : List Int) (w : World) (w0 : (Lit.int .u8 a0).wf = true) (hr : (Kd.int .u8).C w A l.length l) (hc : l.length ≤ c) (hb : ∀ x ∈ l, (Lit.int .u8 x).wf = true) (hr2 : Kd.C kOP w A2 l2.length l2) (hc2 : l2.length ≤ c2) (hb2 : ∀ p ∈ l2, OpWf p)
    (hr3 : (Kd.int .u8).C w A3 l3.length l3) (hc3 : l3.length ≤ c3) (hb3 : ∀ x ∈ l3, (Lit.int .u8 x).wf = true) :
    Calls Try.prog 10 #[.int .u8 a0, .slice A l.length c, .slice A2 l2.length c2, .slice A3 l3.length c3] w fun e w' => e = .returned (.bool true) ∧ Below w.heap.size w w' := by
  have hw := u8_of w0
  by_cases hle : (l.length : Int) ≤ 40 ∧ (l2.length : Int) ≤ 120 ∧ (l3.length : Int) ≤ 300
  · exact flashCut_short a0 A c l A2 c2 l2 A3 c3 l3 w hr hc (bytes_of_wf hb) hr2 hb2 hr3 hc3 (bytes_of_wf hb3) hw hle.1 hle.2.1 hle.2.2
  · exact flashCut_long a0 A c l A2 c2 l2 A3 c3 l3 w hw (by omega)
end Go.Proofs.Ytpkgpcolngoicaa.Given
