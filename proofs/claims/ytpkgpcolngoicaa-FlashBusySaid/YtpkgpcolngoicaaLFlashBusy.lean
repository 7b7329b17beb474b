/- FlashBusy: while it is busy writes do nothing, and reads tell so: for every input. -/
import Derived.Test.YtpkgpcolngoicaaAx1
import Derived.Test.YtpkgpcolngoicaaFBusy
import Derived.Test.YtpkgpcolngoicaaPPuts
set_option linter.unusedVariables false
set_option linter.unusedSimpArgs false
namespace Go.Proofs.Ytpkgpcolngoicaa.Given
open Go.RowKit Go.Proofs.Ytpkgpcolngoicaa.All Go.Proofs.Ytpkgpcolngoicaa.Sep Go.Proofs.YtpkgpcolngoicaaW.PrintWords Go.Proofs.YtpkgpcolngoicaaW.PrintLast Go.Proofs.YtpkgpcolngoicaaW.PrintMore
attribute [local go_sem] max2_int min2_int max_two min_two

def statusOf (t v : Int) : Int := Go.bits .or .u8 t (topBit v)
theorem busy_bits : ∀ (v : Fin 256) (t : Fin 2), Go.bits .and .u8 (statusOf (64 * t.val) v.val) 64 = 64 * t.val ∧ Go.bits .and .u8 (statusOf (64 * t.val) v.val) 63 = 0 ∧
    (decide (128 ≤ statusOf (64 * t.val) v.val) == decide (128 ≤ (v.val : Int))) = false ∧ Go.bits .xor .u8 (64 * t.val) 64 = 64 - 64 * t.val := by decide +kernel
theorem busy_facts {v t : Int} (h0 : 0 ≤ v) (h1 : v ≤ 255) (ht : t = 0 ∨ t = 64) : ∃ x, statusOf t v = x ∧ Go.bits .and .u8 x 64 = t ∧ Go.bits .and .u8 x 63 = 0 ∧
    (decide (128 ≤ x) == decide (128 ≤ v)) = false ∧ Go.bits .xor .u8 t 64 = 64 - t := by
  obtain ⟨m, rfl⟩ : ∃ m : Nat, v = m := ⟨v.toNat, by omega⟩
  refine ⟨_, rfl, ?_⟩
  rcases ht with rfl | rfl
  · exact busy_bits ⟨m, by omega⟩ 0
  · exact busy_bits ⟨m, by omega⟩ 1
theorem wrote_turn (s : FS) (x : Int) (k : Nat) : wrote { s with turn := x } k = wrote s k := by
  induction k with
  | zero => rfl
  | succ k ih => rw [wrote, wrote, ih]; rfl
theorem busy_plan {n : Int} {xs : List Int} (hi : Idle (newS n xs)) (a v : Int) :
    ∃ (bt dt : Int → FS) (ys : List Int) (z : Int), (∀ (w0 w : World) (ts : List Thing) (g : Nat), Held w0 w (fl g (newS n xs) :: ts) → ∃ l : List S47, (Calls Try.prog 15 #[.int .i64 a, .int .u8 v] w fun e w' => ∃ A c, e = .returned (.slice A l.length c) ∧ Held w0 w' (fl g (newS n xs) :: row k47 47 (.slice A l.length c) l :: ts)) ∧
      l.length ≤ 100000 ∧ putsS (newS n xs) l = bt 0) ∧
      (∀ t, (bt t).left = 10) ∧ (∀ t, 0 < (bt t).left) ∧ (∀ t, Good (bt t)) ∧ (∀ t, ticksS (bt t) 10 = dt t) ∧ (∀ t, (dt t).data = ys) ∧ (∀ t, (dt t).left = 0) ∧ (∀ t, (dt t).sectors = n) ∧ (∀ t, readV (dt t) a = z) ∧
      (∀ t, statusV (bt t) = statusOf t v) ∧ (∀ t, togS (bt t) = bt (Go.bits .xor .u8 t 64)) ∧ ys.length = xs.length := by
  have hd : ∀ t, (doneS { progS (newS n xs) a v with turn := t }).data = (doneS (progS (newS n xs) a v)).data := fun t => wrote_turn _ _ _
  refine ⟨fun t => { progS (newS n xs) a v with turn := t }, fun t => doneS { progS (newS n xs) a v with turn := t }, (doneS (progS (newS n xs) a v)).data, readV (doneS (progS (newS n xs) a v)) a,
    fun w0 w ts g h => prog_walk h hi rfl a v, fun t => rfl, fun t => by show (0 : Int) < 10; decide, fun t => ?_, fun t => ticks_all _ 10 rfl (by omega), hd, fun t => rfl, fun t => rfl, fun t => ?_, fun t => rfl, fun t => rfl, ?_⟩
  · obtain ⟨h1, h2, h3, h4, h5⟩ := prog_good hi a v
    exact ⟨h1, h2, h3, h4, h5⟩
  · show rd (doneS { progS (newS n xs) a v with turn := t }).data (place (doneS { progS (newS n xs) a v with turn := t }).data a) = rd (doneS (progS (newS n xs) a v)).data (place (doneS (progS (newS n xs) a v)).data a)
    rw [hd]
  · show (wrote _ _).length = _
    rw [wrote_len]
    rfl
theorem flashBusy_long (a0 : Int) (A : Option Addr) (c : Nat) (l : List Int) (a2 a3 : Int) (A4 : Option Addr) (c4 : Nat) (l4 : List S47) (a5 : Int) (w : World) (hw : 0 ≤ a0 ∧ a0 ≤ 255) (hle : 40 < (l.length : Int) ∨ 40 < (l4.length : Int)) :
    Calls Try.prog 6 #[.int .u8 a0, .slice A l.length c, .int .u16 a2, .int .u8 a3, .slice A4 l4.length c4, .int .u8 a5] w fun e w' => e = .returned (.bool true) ∧ Below w.heap.size w w' := by
  have HW := Lib.hid (awake_walk (Held.nil w))
  by_cases h40 : 40 < (l.length : Int)
  · clear hle
    go_enter Try.func6, Try.ntmps6
    go_wp2_with (go_at_call 11; (with_reducible refine HW.out.mono ?_); rintro e w1 ⟨rfl, h⟩; have HA := Aside0.mk h; clear h)
    go_ret
    exact ⟨rfl, HA.out.bel⟩
  · have h120 : 40 < (l4.length : Int) := by omega
    clear hle
    go_enter Try.func6, Try.ntmps6
    go_wp2_with (go_at_call 11; (with_reducible refine HW.out.mono ?_); rintro e w1 ⟨rfl, h⟩; have HA := Aside0.mk h; clear h)
    go_ret
    exact ⟨rfl, HA.out.bel⟩
theorem read_st {w0 w : World} {ts : List Thing} {g : Nat} {s s' : FS} {x : Int} (h : Held w0 w (fl g s :: ts)) (a : Int) (hb : 0 < s.left) (hx : statusV s = x) (hs : togS s = s') :
    Calls Try.prog 19 #[ptr g, .int .i64 a] w fun e w' => e = .returned (.int .u8 x) ∧ Held w0 w' (fl g s' :: ts) := by
  subst hx hs
  exact read_busy h a hb
theorem puts_in {w0 w : World} {ts : List Thing} {g : Nat} {s : FS} {A : Option Addr} {c : Nat} {l : List S47} (h : Held w0 w (fl g s :: ts)) (hr : Kd.C k47 w0 A l.length l) (hl : l.length ≤ 40) (hb : 0 < s.left) :
    Calls Try.prog 14 #[ptr g, .slice A l.length c] w fun e w' => e = .returned (.tuple #[]) ∧ Held w0 w' (fl g s :: ts) :=
  (puts_walk A c l h (fun W s' h' => Kd.C_below hr h'.bel) (by omega)).mono fun e w' ⟨he, hh⟩ => ⟨he, by rwa [puts_busy hb] at hh⟩
set_option maxHeartbeats 3200000 in
set_option maxRecDepth 20000 in
theorem flashBusy_short (a0 : Int) (A : Option Addr) (c : Nat) (l : List Int) (a2 a3 : Int) (A4 : Option Addr) (c4 : Nat) (l4 : List S47) (a5 : Int) (w : World) (hr : (Kd.int .u8).C w A l.length l) (hc : l.length ≤ c) (hr4 : Kd.C k47 w A4 l4.length l4)
    (hw : 0 ≤ a0 ∧ a0 ≤ 255) (hw2 : 0 ≤ a2 ∧ a2 ≤ 65535) (hw3 : 0 ≤ a3 ∧ a3 ≤ 255) (hw5 : 0 ≤ a5 ∧ a5 ≤ 255) (hle : (l.length : Int) ≤ 40) (hle4 : (l4.length : Int) ≤ 40) :
    Calls Try.prog 6 #[.int .u8 a0, .slice A l.length c, .int .u16 a2, .int .u8 a3, .slice A4 l4.length c4, .int .u8 a5] w fun e w' => e = .returned (.bool true) ∧ Below w.heap.size w w' := by
  have HW := Lib.hid (awake_walk (Held.nil w))
  obtain ⟨n, hn⟩ : ∃ n, 1 + a0 % 4 = n := ⟨_, rfl⟩
  have hn0 : 1 ≤ n := by omega
  have hn1 : n ≤ 4 := by omega
  obtain ⟨R, hR⟩ : ∃ R, a5 % 20 = R := ⟨_, rfl⟩
  have hR0 : 0 ≤ R := by omega
  have hR1 : R ≤ 20 := by omega
  obtain ⟨m, hm⟩ : ∃ m, 256 * n = m := ⟨_, rfl⟩
  obtain ⟨hm0, hm1⟩ : 256 ≤ m ∧ m ≤ 1024 := by omega
  obtain ⟨_, hL⟩ := fill_f l (by omega) (256 * n) (by omega) (by omega)
  have HM : Hid (∀ W ts, Held w W ts → Calls Try.prog 12 #[.int .i64 n, .slice A l.length c] W (Got w (newS n (fillOf l (256 * n))) ts)) := Lib.hid (fun W ts h => made_walk A c n l h (Kd.C_below hr h.bel) hc (by omega) hn0 hn1)
  have hi : Idle (newS n (fillOf l (256 * n))) := idle_new hn0 hn1 hL
  rw [hm] at hL HM hi
  generalize fillOf l m = xs at hL HM hi
  obtain ⟨bt, dt, ys, z, hP, hb10, hbp, hbg, hbd, hdd, hdl, hds, hdr, hst, htg, hyl⟩ := busy_plan hi a2 a3
  generalize newS n xs = s0 at *
  have hyn : 0 < ys.length := by omega
  have hyle : ys.length ≤ 100000 := by omega
  have HP := Lib.hid hP
  have HB10 := Aside0.mk hb10
  have HBP := Aside0.mk hbp
  have HBG := Aside0.mk hbg
  have HBD := Aside0.mk hbd
  have HDD := Aside0.mk hdd
  have HDL := Aside0.mk hdl
  have HDS := Aside0.mk hds
  have HDR := Aside0.mk hdr
  have HST := Aside0.mk hst
  have HTG := Aside0.mk htg
  have HR4 := Aside0.mk hr4
  have HNB : Aside0 (0 ≤ n ∧ n ≤ 255) := ⟨by omega⟩
  have T10 : Aside0 (((10 : Nat) : Int) = 10) := ⟨rfl⟩
  have T10b : Aside0 (10 ≤ 10 ∧ 0 < 10 ∧ 10 ≤ 1000) := ⟨by omega⟩
  have HL4 : Aside0 (l4.length ≤ 40) := ⟨by omega⟩
  clear hr hr4 hP hb10 hbp hbg hbd hdd hdl hds hdr hst htg hi hL hyl
  go_enter Try.func6, Try.ntmps6
  go_wp2_with (first
    | (go_at_call 11; (with_reducible refine HW.out.mono ?_); rintro e w1 ⟨rfl, h⟩; have HA := Aside0.mk h; clear h)
    | (go_at_call 12; (with_reducible refine (HM.out _ _ HB.out).mono ?_); intro e w3 hmd; obtain ⟨g2, rfl, hmd⟩ := hmd; have HB2 := Aside0.mk hmd.swap; obtain ⟨lp, hq1, hq2, hq3⟩ := HP.out _ _ _ _ hmd.swap; have HQ1 := Lib.hid hq1; have HQ2 := Aside0.mk hq2; have HQ3 := Aside0.mk hq3; clear hmd hq1 hq2 hq3)
    | (go_at_call 12; (with_reducible refine (HM.out _ _ HA.out).mono ?_); intro e w2 hmd; obtain ⟨g, rfl, hmd⟩ := hmd; have HB := Aside0.mk hmd; clear hmd)
    | (go_at_call 15; (with_reducible refine HQ4.out.mono ?_); rintro e w6 ⟨A3, c3, rfl, h⟩; have HE := Aside0.mk h; clear h)
    | (go_at_call 15; (with_reducible refine HQ1.out.mono ?_); rintro e w4 ⟨A2, c2, rfl, h⟩; have HD := Aside0.mk h; clear h)
    | (go_at_call 14; (with_reducible refine (puts_row HE.out HQ5.out HQ6.out).mono ?_); rintro e w7 ⟨rfl, h⟩; have HF := Aside0.mk h.swap; clear h)
    | (go_at_call 14; (with_reducible refine (puts_row HD.out HQ2.out HQ3.out).mono ?_); rintro e w5 ⟨rfl, h⟩; obtain ⟨lp2, hq1, hq2, hq3⟩ := HP.out _ _ _ _ h.swap; have HQ4 := Lib.hid hq1; have HQ5 := Aside0.mk hq2; have HQ6 := Aside0.mk hq3; clear h hq1 hq2 hq3)
    | (go_at_call 14; (with_reducible refine (puts_in HF.out HR4.out HL4.out (HBP.out 0)).mono ?_); rintro e w8 ⟨rfl, h⟩; have HI := Aside0.mk h; clear h))
  clear HW HM HA HB HB2 HD HE HF HQ1 HQ2 HQ3 HQ4 HQ5 HQ6 HP HR4 HL4
  go_loopw [17, 18] (fun last i wr => ∃ (k : Nat) (t : Int), (k : Int) ≤ R ∧ (t = 0 ∨ t = 64) ∧ i = .int .i64 k ∧ last = .int .u8 (64 - t) ∧ Aside0 (Held w wr (fl g (bt t) :: fl g2 (bt 0) :: []))) (fun _ i _ => R.toNat - (intOf i).toNat)
  case atStart => exact ⟨0, 0, hR0, .inl rfl, rfl, rfl, HI⟩
  case round =>
    obtain ⟨k, t, hk, ht, rfl, rfl, hH⟩ := hrel
    clear HI
    by_cases hlt : (k : Int) < R
    · obtain ⟨x, hx, hx64, hx63, hxb, hxt⟩ := busy_facts hw3.1 hw3.2 ht
      have hne : (t == 64 - t) = false := beq_eq_false_iff_ne.2 (by omega)
      have HX : Aside0 (statusV (bt t) = x) := ⟨(HST.out t).trans hx⟩
      have HT : Aside0 (togS (bt t) = bt (64 - t)) := ⟨by rw [HTG.out t, hxt]⟩
      have hnt : 64 - t = 0 ∨ 64 - t = 64 := by omega
      have hnn : 64 - (64 - t) = t := by omega
      clear hx hxt
      go_wp2_with (go_at_call 19; (with_reducible refine (read_st hH.out (k : Int) (HBP.out t) HX.out HT.out).mono ?_); rintro e w9 ⟨rfl, h⟩; have HO := Aside0.mk h; clear h)
      go_roundw
      case rel => exact ⟨k + 1, 64 - t, by omega, hnt, by go_num, by rw [hnn], HO⟩
      case measure => simp [intOf]; omega
    · have hkR : (k : Int) = R := by omega
      clear hlt hk
      go_wp2_with (first
        | (go_at_call 16; (with_reducible refine (ticks_at 10 (mi := 10) T10.out HJ.out (n := 10) (ni := 10) T10.out (HB10.out 0) (HBG.out 0) T10b.out (HBD.out 0)).mono ?_); rintro e v2 ⟨rfl, h⟩; have HK := Aside0.mk h.swap; clear h)
        | (go_at_call 16; (with_reducible refine (ticks_at 10 (mi := 10) T10.out hH.out (n := 10) (ni := 10) T10.out (HB10.out t) (HBG.out t) T10b.out (HBD.out t)).mono ?_); rintro e v1 ⟨rfl, h⟩; have HJ := Aside0.mk h.swap; clear h)
        | (go_at_call 13; (with_reducible refine (bytes_at HL1.out (HDD.out 0) hyn).mono ?_); rintro e v4 ⟨q2, c6, rfl, h1, h⟩; have HC6 := Aside0.mk h1; have HN := Aside0.mk h; clear h h1)
        | (go_at_call 13; (with_reducible refine (bytes_at HK.out (HDD.out t) hyn).mono ?_); rintro e v3 ⟨q1, c5, rfl, h1, h⟩; have HC5 := Aside0.mk h1; have HL1 := Aside0.mk h.third; clear h h1)
        | (go_at_call 17; (with_reducible refine (same_rows (row_reads HN.out.third) (row_reads HN.out) rfl HC5.out HC6.out hyle).mono ?_); rintro e v5 ⟨rfl, hd⟩; have HO := Aside0.mk (HN.out.below hd.below); clear hd)
        | (go_at_call 18; (with_reducible refine (left_is HO.out.fourth (HDL.out t)).mono ?_); rintro e v6 ⟨rfl, rfl⟩)
        | (go_at_call 19; (with_reducible refine (read_is HO.out.fourth (HDL.out t) (by rw [HDS.out]; exact HNB.out) (HDR.out t)).mono ?_); rintro e v7 ⟨rfl, rfl⟩)
        | (go_at_call 19; (with_reducible refine (read_is HO.out.swap (HDL.out 0) (by rw [HDS.out]; exact HNB.out) (HDR.out 0)).mono ?_); rintro e v8 ⟨rfl, rfl⟩))
      go_ret
      exact ⟨rfl, HO.out.bel⟩
theorem flashBusy_walk (a0 : Int) (A : Option Addr) (c : Nat) (l : List Int) (a2 a3 : Int) (A4 : Option Addr) (c4 : Nat) (l4 : List S47) (a5 : Int) (w : World) (w0 : (Lit.int .u8 a0).wf = true) (hr : (Kd.int .u8).C w A l.length l) (hc : l.length ≤ c) (hb : ∀ x ∈ l, (Lit.int .u8 x).wf = true) (w2 : (Lit.int .u16 a2).wf = true) (w3 : (Lit.int .u8 a3).wf = true)
    (hr4 : Kd.C k47 w A4 l4.length l4) (hc4 : l4.length ≤ c4) (hb4 : ∀ p ∈ l4, PutWf p) (w5 : (Lit.int .u8 a5).wf = true) :
    Calls Try.prog 6 #[.int .u8 a0, .slice A l.length c, .int .u16 a2, .int .u8 a3, .slice A4 l4.length c4, .int .u8 a5] w fun e w' => e = .returned (.bool true) ∧ Below w.heap.size w w' := by
  simp [Lit.wf, IntKind.min, IntKind.max, IntKind.signed, IntKind.bits] at w0 w2 w3 w5
  by_cases hle : (l.length : Int) ≤ 40 ∧ (l4.length : Int) ≤ 40
  · exact flashBusy_short a0 A c l a2 a3 A4 c4 l4 a5 w hr hc hr4 (by omega) (by omega) (by omega) (by omega) hle.1 hle.2
  · exact flashBusy_long a0 A c l a2 a3 A4 c4 l4 a5 w (by omega) (by omega)
end Go.Proofs.Ytpkgpcolngoicaa.Given
