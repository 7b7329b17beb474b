/- FlashPrograms: a byte that is programmed is what it was, and the new one: for every input. -/
import Derived.Test.YtpkgpcolngoicaaAx1
import Derived.Test.YtpkgpcolngoicaaLFlashNew
set_option linter.unusedVariables false
set_option linter.unusedSimpArgs false
namespace Go.Proofs.Ytpkgpcolngoicaa.Given
open Go.RowKit Go.Proofs.Ytpkgpcolngoicaa.All Go.Proofs.Ytpkgpcolngoicaa.Sep Go.Proofs.YtpkgpcolngoicaaW.PrintWords Go.Proofs.YtpkgpcolngoicaaW.PrintLast Go.Proofs.YtpkgpcolngoicaaW.PrintMore
attribute [local go_sem] max2_int min2_int max_two min_two

theorem row_put {w0 w : World} {ts : List Thing} {q c : Nat} {xs : List Int} (h : Held w0 w (row (Kd.int .u8) 5 (.slice (some ⟨q, 0, none⟩) xs.length c) xs :: ts)) (i x : Int) {ys : List Int} (hy : xs.set i.toNat x = ys) :
    Held w0 (w.setCell ⟨q, i.toNat, none⟩ (.int .u8 x)) (row (Kd.int .u8) 5 (.slice (some ⟨q, 0, none⟩) xs.length c) ys :: ts) :=
  h.one (fun f _ hf => by
    obtain ⟨h1, hr⟩ := hf
    obtain ⟨hr1, _⟩ := Kd.R_put hr i x
    rw [hy] at hr1
    exact ⟨f, ⟨fun k hk => by simpa [World.setCell] using h1 k hk, hr1⟩, Frame.set (hr.1 q rfl) _⟩)
theorem row_cell {w0 w : World} {ts : List Thing} {q c : Nat} {xs : List Int} (h : Held w0 w (row (Kd.int .u8) 5 (.slice (some ⟨q, 0, none⟩) xs.length c) xs :: ts)) (i : Int) (h0 : 0 ≤ i) (h1 : i < xs.length) {y : Int} (hy : rd xs i = y) :
    w.cell? ⟨q, i.toNat, none⟩ = some (.int .u8 y) ∧ w.frozen? ⟨q, i.toNat, none⟩ = false := by
  obtain ⟨f, _, _, hr⟩ := h.at_
  obtain ⟨hc, hf⟩ := Kd.R_cell (0 : Int) hr i h0 h1
  subst hy
  exact ⟨hc, hf⟩
theorem row_cap {w0 w : World} {ts : List Thing} {A : Option Addr} {n c : Nat} {xs : List Int} (h : Held w0 w (row (Kd.int .u8) 5 (.slice A n c) xs :: ts)) : n ≤ c ∧ n = xs.length := by
  obtain ⟨A', c', hv, hl, _⟩ := h.row_at
  injection hv with h1 h2 h3
  subst h2 h3
  exact ⟨hl, rfl⟩
/-- Bytes, their block known. -/
theorem bytes_at {w0 w : World} {ts : List Thing} {g : Nat} {s : FS} {xs : List Int} (h : Held w0 w (fl g s :: ts)) (hx : s.data = xs) (hp : 0 < xs.length) : Calls Try.prog 13 #[ptr g] w fun e w' => ∃ q c, e = .returned (.slice (some ⟨q, 0, none⟩) xs.length c) ∧ xs.length ≤ c ∧ Held w0 w' (row (Kd.int .u8) 5 (.slice (some ⟨q, 0, none⟩) xs.length c) xs :: fl g s :: ts) :=
  (bytes_is h hx).mono fun e w' ⟨v, he, hh⟩ => by
    obtain ⟨A, c, rfl, hc, _⟩ := hh.row_at
    obtain ⟨q, rfl⟩ := row_block hh hp
    exact ⟨q, c, he, hc, hh⟩
theorem same_rows2 {w : World} {A B : Option Addr} {c d n n' : Nat} {xs : List Int} (h : (Kd.int .u8).C w A xs.length xs) (h' : (Kd.int .u8).C w B xs.length xs) (hn : xs.length = n) (hn' : xs.length = n') (hc : n ≤ c) (hd : n' ≤ d) (hl : n ≤ 100000) :
    Calls Try.prog 17 #[.slice A n c, .slice B n' d] w fun e w' => e = .returned (.bool true) ∧ Drawn0 w w' := by
  subst hn hn'
  exact same_yes h hc h' hd hl
theorem left_quiet {w0 w : World} {ts : List Thing} {g : Nat} {s : FS} (h : Held w0 w (fl g s :: ts)) {x : Int} (hx : s.left = x) : ∀ N, Calls Try.prog 18 #[ptr g] (w.drewN N) fun e w' => e = .returned (.int .i64 x) ∧ w' = w.drewN N :=
  fun N => (left_is (h.below (pw_below_drewN (Below.refl _ _) N)) hx).mono fun e w' ⟨a, b⟩ => ⟨a, b.symm⟩
theorem read_quiet {w0 w : World} {ts : List Thing} {g : Nat} {s : FS} (h : Held w0 w (fl g s :: ts)) (hid : s.left = 0) (hsec : 0 ≤ s.sectors ∧ s.sectors ≤ 255) {a x : Int} (hx : readV s a = x) : ∀ N, Calls Try.prog 19 #[ptr g, .int .i64 a] (w.drewN N) fun e w' => e = .returned (.int .u8 x) ∧ w' = w.drewN N :=
  fun N => (read_is (h.below (pw_below_drewN (Below.refl _ _) N)) hid hsec hx).mono fun e w' ⟨a, b⟩ => ⟨a, b.symm⟩
/-- Two rows of the same bytes. -/
theorem same_rows {w : World} {A B : Option Addr} {c d n : Nat} {xs : List Int} (h : (Kd.int .u8).C w A xs.length xs) (h' : (Kd.int .u8).C w B xs.length xs) (hn : xs.length = n) (hc : n ≤ c) (hd : n ≤ d) (hl : n ≤ 100000) :
    Calls Try.prog 17 #[.slice A n c, .slice B n d] w fun e w' => e = .returned (.bool true) ∧ Drawn0 w w' := by
  subst hn
  exact same_yes h hc h' hd hl
theorem ticks_at {w0 w : World} {ts : List Thing} {g : Nat} {s : FS} (m : Nat) {mi : Int} (hmi : (m : Int) = mi) (h : Held w0 w (fl g s :: ts)) {n : Nat} {ni : Int} (hni : (n : Int) = ni) (hl : s.left = ni) (hg : Good s) (hm : m ≤ n ∧ 0 < n ∧ n ≤ 1000) {s' : FS} (hs : ticksS s m = s') :
    Calls Try.prog 16 #[ptr g, .int .i64 mi] w fun e w' => e = .returned (.tuple #[]) ∧ Held w0 w' (fl g s' :: ts) := by
  subst hmi hni
  exact ticks_to m h n hl hg hm.1 hm.2.1 hm.2.2 hs
theorem flashPrograms_long (a0 : Int) (A : Option Addr) (c : Nat) (l : List Int) (a2 a3 : Int) (w : World) (hw : 0 ≤ a0 ∧ a0 ≤ 255) (hle : 40 < (l.length : Int)) :
    Calls Try.prog 3 #[.int .u8 a0, .slice A l.length c, .int .u16 a2, .int .u8 a3] w fun e w' => e = .returned (.bool true) ∧ Below w.heap.size w w' := by
  have HW := Lib.hid (awake_walk (Held.nil w))
  go_enter Try.func3, Try.ntmps3
  go_wp2_with (go_at_call 11; (with_reducible refine HW.out.mono ?_); rintro e w1 ⟨rfl, h⟩; have HA := Aside0.mk h; clear h)
  go_ret
  exact ⟨rfl, HA.out.bel⟩
set_option maxHeartbeats 3200000 in
theorem flashPrograms_short (a0 : Int) (A : Option Addr) (c : Nat) (l : List Int) (a2 a3 : Int) (w : World) (hr : (Kd.int .u8).C w A l.length l) (hc : l.length ≤ c) (hw : 0 ≤ a0 ∧ a0 ≤ 255) (hw2 : 0 ≤ a2 ∧ a2 ≤ 65535) (hw3 : 0 ≤ a3 ∧ a3 ≤ 255) (hle : (l.length : Int) ≤ 40) :
    Calls Try.prog 3 #[.int .u8 a0, .slice A l.length c, .int .u16 a2, .int .u8 a3] w fun e w' => e = .returned (.bool true) ∧ Below w.heap.size w w' := by
  have HW := Lib.hid (awake_walk (Held.nil w))
  obtain ⟨n, hn⟩ : ∃ n, 1 + a0 % 4 = n := ⟨_, rfl⟩
  have hn0 : 1 ≤ n := by omega
  have hn1 : n ≤ 4 := by omega
  obtain ⟨m, hm⟩ : ∃ m, 256 * n = m := ⟨_, rfl⟩
  obtain ⟨hm0, hm1⟩ : 256 ≤ m ∧ m ≤ 1024 := by omega
  obtain ⟨p, hp⟩ : ∃ p, a2 % m = p := ⟨_, rfl⟩
  have hp0 : 0 ≤ p := by rw [← hp]; exact Int.emod_nonneg _ (by omega)
  have hp1 : p < m := by rw [← hp]; exact Int.emod_lt_of_pos _ (by omega)
  obtain ⟨_, hL⟩ := fill_f l (by omega) (256 * n) (by omega) (by omega)
  have HM : Hid (∀ W, Held w W [] → Calls Try.prog 12 #[.int .i64 n, .slice A l.length c] W (Got w (newS n (fillOf l (256 * n))) [])) := Lib.hid (fun W h => made_walk A c n l h (Kd.C_below hr h.bel) hc (by omega) hn0 hn1)
  rw [hm] at hL HM
  generalize fillOf l m = xs at hL HM
  have hi : Idle (newS n xs) := idle_new hn0 hn1 (by omega)
  have hpl : place xs p = p := place_small _ _ hp0 (by omega)
  obtain ⟨y, hy⟩ : ∃ y, Go.bits .and .u8 (rd xs p) a3 = y := ⟨_, rfl⟩
  obtain ⟨z, hz⟩ : ∃ z, rd xs p = z := ⟨_, rfl⟩
  obtain ⟨ys, hys⟩ : ∃ ys, xs.set p.toNat y = ys := ⟨_, rfl⟩
  have hyl : ys.length = xs.length := by rw [← hys, List.length_set]
  have hyp : rd ys p = y := by
    rw [← hys]
    unfold rd
    rw [List.getD_eq_getElem?_getD, List.getElem?_set_self (by omega)]
    rfl
  have hbd : (doneS (progS (newS n xs) p a3)).data = ys := by
    rw [prog_done hi]
    show xs.set (place xs p).toNat (Go.bits .and .u8 (rd xs (place xs p)) a3) = ys
    rw [hpl, hy, hys]
  have hbr : readV (doneS (progS (newS n xs) p a3)) p = y := by
    show rd (doneS (progS (newS n xs) p a3)).data (place (doneS (progS (newS n xs) p a3)).data p) = y
    rw [hbd, place_small _ _ hp0 (by omega), hyp]
  have hg := prog_good hi p a3
  have h9 : ticksS (progS (newS n xs) p a3) 9 = { progS (newS n xs) p a3 with left := 1 } := ticks_less _ 10 rfl 9 (by omega)
  have hg9 := ticks_good _ 10 rfl hg (by omega) 9 (by omega)
  have h10 : ticksS (ticksS (progS (newS n xs) p a3) 9) 1 = doneS (progS (newS n xs) p a3) := ticks_all _ 10 rfl (by omega)
  have HP : Hid (∀ W g ts, Held w W (fl g (newS n xs) :: ts) → ∃ l : List S47, (Calls Try.prog 15 #[.int .i64 p, .int .u8 a3] W fun e w' => ∃ A c, e = .returned (.slice A l.length c) ∧ Held w w' (fl g (newS n xs) :: row k47 47 (.slice A l.length c) l :: ts)) ∧
      l.length ≤ 100000 ∧ putsS (newS n xs) l = progS (newS n xs) p a3) := Lib.hid (fun W g ts hW => prog_walk hW hi rfl p a3)
  have hbl : (progS (newS n xs) p a3).left = 10 := rfl
  have hdl : (doneS (progS (newS n xs) p a3)).left = 0 := rfl
  have hds : (doneS (progS (newS n xs) p a3)).sectors = n := rfl
  have h9d : (ticksS (progS (newS n xs) p a3) 9).data = xs := by rw [h9]; rfl
  have h9l : (ticksS (progS (newS n xs) p a3) 9).left = 1 := by rw [h9]
  generalize h9e : ticksS (progS (newS n xs) p a3) 9 = s9 at *
  generalize progS (newS n xs) p a3 = b at *
  generalize doneS b = d at *
  have HXD : Aside0 ((newS n xs).data = xs) := ⟨rfl⟩
  generalize newS n xs = s0 at *
  have hxn : 0 < xs.length := by omega
  have hyn : 0 < ys.length := by omega
  have hpx : p < (xs.length : Int) := by omega
  have hxl : xs.length ≤ 100000 := by omega
  have hb1 : ((xs.length : Int) != m) = false := by rw [hL]; simp
  have hb2 : ((ys.length : Int) != m) = false := by rw [hyl, hL]; simp
  have T9 : Aside0 (((9 : Nat) : Int) = 9) := ⟨rfl⟩
  have T10 : Aside0 (((10 : Nat) : Int) = 10) := ⟨rfl⟩
  have T1 : Aside0 (((1 : Nat) : Int) = 1) := ⟨rfl⟩
  have T9b : Aside0 (9 ≤ 10 ∧ 0 < 10 ∧ 10 ≤ 1000) := ⟨by omega⟩
  have T1b : Aside0 (1 ≤ 1 ∧ 0 < 1 ∧ 1 ≤ 1000) := ⟨by omega⟩
  have HG := Aside0.mk hg
  have HG9 := Aside0.mk hg9
  have H9E := Aside0.mk h9e
  have H10 := Aside0.mk h10
  have HBL := Aside0.mk hbl
  have HDL := Aside0.mk hdl
  have HDS := Aside0.mk hds
  have H9D := Aside0.mk h9d
  have H9L := Aside0.mk h9l
  have HBD := Aside0.mk hbd
  have HBR := Aside0.mk hbr
  have HYS := Aside0.mk hys
  have HYL := Aside0.mk hyl
  have HYP := Aside0.mk hyp
  have HXL := Aside0.mk hL
  have HZ := Aside0.mk hz
  rw [hz] at hy
  clear hg hg9 h9e h10 hbl hdl hds h9d h9l hbd hbr hys hyl hyp hpl hi h9 hr hz hL
  go_enter Try.func3, Try.ntmps3
  go_upto_region 18 with (first
    | (go_at_call 11; (with_reducible refine HW.out.mono ?_); rintro e w1 ⟨rfl, h⟩; have HA := Aside0.mk h; clear h)
    | (go_at_call 12; (with_reducible refine (HM.out _ HA.out).mono ?_); intro e w2 hmd; obtain ⟨g, rfl, hmd⟩ := hmd; have HB := Aside0.mk hmd; clear hmd)
    | (go_at_call 13; (with_reducible refine (bytes_at HB.out HXD.out hxn).mono ?_); rintro e w3 ⟨q1, c1, rfl, h1, h⟩; have HC1 := Aside0.mk h1; have HC := Aside0.mk h.swap; obtain ⟨lp, hq1, hq2, hq3⟩ := HP.out _ _ _ h.swap; have HQ1 := Lib.hid hq1; have HQ2 := Aside0.mk hq2; have HQ3 := Aside0.mk hq3; clear h h1 hq1 hq2 hq3)
    | (go_at_call 15; (with_reducible refine HQ1.out.mono ?_); rintro e w4 ⟨A2, c2, rfl, h⟩; have HD := Aside0.mk h; clear h)
    | (go_at_call 14; (with_reducible refine (puts_row HD.out HQ2.out HQ3.out).mono ?_); rintro e w5 ⟨rfl, h⟩; have HE := Aside0.mk h; clear h)
    | (go_at_call 16; (with_reducible refine (ticks_at 9 (mi := 9) T9.out HE.out (n := 10) (ni := 10) T10.out HBL.out HG.out T9b.out H9E.out).mono ?_); rintro e w6 ⟨rfl, h⟩; have HF := Aside0.mk h; clear h)
    | (go_at_call 13; (with_reducible refine (bytes_at HF.out H9D.out hxn).mono ?_); rintro e w7 ⟨q2, c3, rfl, h1, h⟩; have HC3 := Aside0.mk h1; have HI := Aside0.mk h; clear h h1)
    | (go_at_call 17; (with_reducible refine (same_rows (row_reads HI.out) (row_reads HI.out.third) rfl HC3.out HC1.out hxl).mono ?_); rintro e w8 ⟨rfl, hd⟩; have HJ := Aside0.mk (HI.out.drop.below hd.below); clear hd)
    | (go_at_call 18; (with_reducible refine (left_is HJ.out H9L.out).mono ?_); rintro e w9 ⟨rfl, rfl⟩)
    | (go_at_call 16; (with_reducible refine (ticks_at 1 (mi := 1) T1.out HJ.out (n := 1) (ni := 1) T1.out H9L.out HG9.out T1b.out H10.out).mono ?_); rintro e w10 ⟨rfl, h⟩; have HK := Aside0.mk h; clear h)
    | (go_at_call 13; (with_reducible refine (bytes_at HK.out HBD.out hyn).mono ?_); rintro e w11 ⟨q3, c4, rfl, h1, h⟩; have HC4 := Aside0.mk h1; have HN := Aside0.mk h.third; obtain ⟨hcell, hfro⟩ := row_cell h.third p hp0 hpx HZ.out; clear h h1))
  have HO := Aside0.mk (row_put HN.out p y HYS.out)
  have HLq := Lib.hid (left_quiet HO.out.third HDL.out)
  have HRq := Lib.hid (read_quiet HO.out.third HDL.out (by rw [HDS.out]; omega) HBR.out)
  have HC5 : Aside0 (xs.length ≤ c1) := ⟨HC1.out⟩
  have HSq : Hid (∀ N, Calls Try.prog 17 #[.slice (some ⟨q3, 0, none⟩) ys.length c4, .slice (some ⟨q1, 0, none⟩) xs.length c1] ((w11.setCell ⟨q1, p.toNat, none⟩ (.int .u8 y)).drewN N) fun e w' => e = .returned (.bool true) ∧ Drawn0 ((w11.setCell ⟨q1, p.toNat, none⟩ (.int .u8 y)).drewN N) w') :=
    Lib.hid (fun N => same_rows2 (xs := ys) (Kd.C_drewN (row_reads HO.out.swap) _) (Kd.C_drewN (row_reads HO.out) _) rfl HYL.out HC4.out HC5.out (by rw [HYL.out]; exact hxl))
  clear HB HC HD HE HF HI HJ HK HM HW HP HQ1 HN
  go_wp2
  go_quiet (first
    | (go_at_call 18; exact Calls.quiet_of_same (HLq.out _))
    | (go_at_call 19; exact Calls.quiet_of_same (HRq.out _))
    | (go_at_call 17; (with_reducible refine (HSq.out _).mono ?_); rintro e w' ⟨rfl, ⟨nd, rfl⟩⟩; (first | exact ⟨rfl, _, World.drewN_drewN _ _ _⟩ | exact ⟨rfl, _, Eq.trans (World.drewN_drewN _ _ _) (congrArg (World.drewN _) (Nat.add_assoc _ _ _))⟩)))
  rename_i nq
  have HZ2 := Aside0.mk (HO.out.below (pw_below_drewN (Below.refl _ _) nq))
  go_wp2
  go_ret
  exact ⟨rfl, HZ2.out.bel⟩
theorem flashPrograms_walk (a0 : Int) (A : Option Addr) (c : Nat) (l : List Int) (a2 a3 : Int) (w : World) (w0 : (Lit.int .u8 a0).wf = true) (hr : (Kd.int .u8).C w A l.length l) (hc : l.length ≤ c) (hb : ∀ x ∈ l, (Lit.int .u8 x).wf = true) (w2 : (Lit.int .u16 a2).wf = true) (w3 : (Lit.int .u8 a3).wf = true) :
    Calls Try.prog 3 #[.int .u8 a0, .slice A l.length c, .int .u16 a2, .int .u8 a3] w fun e w' => e = .returned (.bool true) ∧ Below w.heap.size w w' := by
  simp [Lit.wf, IntKind.min, IntKind.max, IntKind.signed, IntKind.bits] at w0 w2 w3
  by_cases hle : (l.length : Int) ≤ 40
  · exact flashPrograms_short a0 A c l a2 a3 w hr hc (by omega) (by omega) (by omega) hle
  · exact flashPrograms_long a0 A c l a2 a3 w (by omega) (by omega)
end Go.Proofs.Ytpkgpcolngoicaa.Given
