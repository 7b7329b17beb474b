/- A flash chip as one thing; what it takes, tells, has. -/
import Derived.Test.YtpkgpcolngoicaaFOps
set_option linter.unusedVariables false
set_option linter.unusedSimpArgs false
namespace Go.Proofs.Ytpkgpcolngoicaa.Given
open Go.RowKit Go.Proofs.Ytpkgpcolngoicaa.All Go.Proofs.Ytpkgpcolngoicaa.Sep Go.Proofs.YtpkgpcolngoicaaW.PrintWords Go.Proofs.YtpkgpcolngoicaaW.PrintLast Go.Proofs.YtpkgpcolngoicaaW.PrintMore
attribute [local go_sem] max2_int min2_int max_two min_two

/-- The chip: its row, its step's value and blocks are its own. -/
def fl (g : Nat) (s : FS) : Thing where
  P w f := ∃ q cap sv olds, StepIs g olds s.step sv ∧ FIn g q cap s sv olds w f
  stays := fun {w w' f} ⟨q, cap, sv, olds, hs, h⟩ hst => ⟨q, cap, sv, olds, hs, (fchip g q cap s sv olds).stays h hst⟩
  lt := fun ⟨_, _, _, _, _, h⟩ => h.lt
section
variable {w0 w : World} {ts : List Thing} {g : Nat} {s : FS}
theorem fl_open (h : Held w0 w (fl g s :: ts)) : Chipped w0 w g s ts := by
  obtain ⟨hb, S, hS, f, r, ⟨q, cap, sv, olds, hs, hf⟩, hR, h1, h2, h3⟩ := h
  exact ⟨q, cap, sv, olds, hs, hb, S, hS, f, r, hf, hR, h1, h2, h3⟩
theorem fl_close (h : Chipped w0 w g s ts) : Held w0 w (fl g s :: ts) := by
  obtain ⟨q, cap, sv, olds, hs, h⟩ := h
  exact h.one (fun f _ hf => ⟨f, ⟨q, cap, sv, olds, hs, hf⟩, Frame.refl _ _⟩)
/-- A write is taken. -/
theorem taken_walk (h : Held w0 w (fl g s :: ts)) (a v : Int) (ha : 0 ≤ a) (ha2 : a ≤ 1000000) :
    Calls Try.prog 37 #[ptr g, .int .i64 a, .int .u8 v] w fun e w' => e = .returned (.tuple #[]) ∧ Held w0 w' (fl g (takeS s a v) :: ts) := by
  obtain ⟨q, cap, sv, olds, hs, h⟩ := fl_open h
  unfold takeS
  by_cases hn : v = 240 ∧ s.raw = false
  · rw [if_pos hn]
    obtain ⟨rfl, hr⟩ := hn
    exact (taken_named h a hr).mono fun e w' ⟨h1, h2⟩ => ⟨h1, fl_close h2⟩
  · rw [if_neg hn]
    cases hst : s.step with
    | on_ t =>
      rw [hst] at hs
      cases t with
      | cmd =>
        have e : sv = plainV 49 g := hs
        subst e
        exact (taken_command h a v hn (cmdS (restS s) a v) (fun W ⟨s1, new, h1, h2⟩ => command_walk h2 h1 a v ha ha2)).mono fun e w' ⟨h1, h2⟩ => ⟨h1, fl_close h2⟩
      | erase =>
        have e : sv = plainV 58 g := hs
        subst e
        exact (taken_erase h a v hn (eraseS (restS s) a v) (fun W ⟨s1, new, h1, h2⟩ => erase_walk h2 h1 a v ha ha2)).mono fun e w' ⟨h1, h2⟩ => ⟨h1, fl_close h2⟩
    | prog =>
      rw [hst] at hs
      have e : sv = plainV 57 g := hs
      subst e
      exact (taken_program h a v hn (beginS (restS s) 1 a 1 v 10) (fun W ⟨s1, new, h1, h2⟩ => program_walk h2 h1 a v)).mono fun e w' ⟨h1, h2⟩ => ⟨h1, fl_close h2⟩
    | second t =>
      rw [hst] at hs
      obtain ⟨g1, g2, e, k1, k2⟩ := hs
      subst e
      exact (taken_second g1 g2 h a v hn _ (fun W ⟨s1, new, h1, h2⟩ => second_walk h2 g1 g2 t a v ha ha2 (List.mem_append_right _ k1) (List.mem_append_right _ k2) h1)).mono fun e w' ⟨h1, h2⟩ => ⟨h1, fl_close h2⟩
    | first t =>
      rw [hst] at hs
      obtain ⟨g1, g2, g3, e, k1, k2, k3⟩ := hs
      subst e
      exact (taken_first g1 g3 h a v hn _ (fun W ⟨s1, new, h1, h2⟩ => first_walk h2 g1 g2 g3 t a v ha ha2 (List.mem_append_right _ k1) (List.mem_append_right _ k2) (List.mem_append_right _ k3) h1)).mono fun e w' ⟨h1, h2⟩ => ⟨h1, fl_close h2⟩
end
def mx (a b : Int) : Int := if a < b then b else a
theorem at_walk (g q n cap : Nat) (a : Int) (w : World) (hc : w.cell? ⟨g, 1, none⟩ = some (.slice (some ⟨q, 0, none⟩) n cap)) (hn : 0 < n) :
    Calls Try.prog 36 #[ptr g, .int .i64 a] w fun e w' => e = .returned (.int .i64 (mx 0 a % (n : Int))) ∧ w = w' := by
  have h0 : 0 ≤ mx 0 a := by unfold mx; split <;> omega
  have e1 : ((n : Int) == 0) = false := beq_eq_false_iff_ne.mpr (by omega)
  have e2 : ((n : Int) != 0) = true := bne_iff_ne.mpr (by omega)
  have hm : (if 0 < a then a else 0) = mx 0 a := rfl
  generalize mx 0 a = m at hm h0 ⊢
  go_enter Try.func36, Try.ntmps36
  go_wp2
  go_ret
  exact ⟨rfl, rfl⟩
def place (xs : List Int) (a : Int) : Int := mx 0 a % (xs.length : Int)
theorem place_bd (xs : List Int) (a : Int) (h : 0 < xs.length) : 0 ≤ place xs a ∧ place xs a < xs.length := by
  unfold place
  exact ⟨Int.emod_nonneg _ (by omega), Int.emod_lt_of_pos _ (by omega)⟩
def writeS (s : FS) (a v : Int) : FS := if 0 < s.left then s else takeS s (place s.data a) v
section
variable {w0 w : World} {ts : List Thing} {g : Nat} {s : FS}
theorem write_walk (h : Held w0 w (fl g s :: ts)) (a v : Int) :
    Calls Try.prog 23 #[ptr g, .int .i64 a, .int .u8 v] w fun e w' => e = .returned (.tuple #[]) ∧ Held w0 w' (fl g (writeS s a v) :: ts) := by
  obtain ⟨q, cap, sv, olds, hs, h'⟩ := fl_open h
  have c1 := fchip_cell h' 1 (.slice (some ⟨q, 0, none⟩) s.data.length cap) rfl
  have c9 := fchip_cell h' 9 (.int .i64 s.left) rfl
  obtain ⟨hl0, hl1⟩ := fchip_len h'
  obtain ⟨hp0, hp1⟩ := place_bd s.data a hl0
  have HA : Hid (Calls Try.prog 36 #[ptr g, .int .i64 a] w fun e w' => e = .returned (.int .i64 (place s.data a)) ∧ w = w') := Lib.hid (at_walk g q s.data.length cap a w c1 hl0)
  have HT := Lib.hid (taken_walk h (place s.data a) v hp0 (by omega))
  have HH := Aside0.mk h
  clear h h' hs
  unfold writeS
  generalize place s.data a = p at *
  by_cases hl : 0 < s.left
  · rw [if_pos hl]
    generalize s.left = m at *
    go_enter Try.func23, Try.ntmps23
    go_wp2
    exact bodyPost_ret (results_none rfl _ _ _) rfl ⟨rfl, HH.out⟩
  · rw [if_neg hl]
    generalize s.left = m at *
    go_enter Try.func23, Try.ntmps23
    go_wp2_with (first
      | (go_at_call 36; (with_reducible refine HA.out.mono ?_); rintro e w1 ⟨rfl, rfl⟩)
      | (go_at_call 37; (with_reducible refine HT.out.mono ?_); rintro e w2 ⟨rfl, h2⟩; have H2 := Aside0.mk h2; clear h2))
    go_end0
    exact ⟨rfl, H2.out⟩
theorem left_walk (h : Held w0 w (fl g s :: ts)) : Calls Try.prog 18 #[ptr g] w fun e w' => e = .returned (.int .i64 s.left) ∧ w = w' := by
  obtain ⟨q, cap, sv, olds, hs, h'⟩ := fl_open h
  have c9 := fchip_cell h' 9 (.int .i64 s.left) rfl
  clear h h' hs
  generalize s.left = m at *
  go_enter Try.func18, Try.ntmps18
  go_wp2
  go_ret
  exact ⟨rfl, rfl⟩
/-- What is made, and held. -/
def Made (w0 : World) (xs : List Int) (ts : List Thing) (e : Ending) (w' : World) : Prop := ∃ v, e = .returned v ∧ Held w0 w' (row (Kd.int .u8) 5 v xs :: ts)
theorem bytes_walk (h : Held w0 w (fl g s :: ts)) : Calls Try.prog 13 #[ptr g] w (Made w0 s.data (fl g s :: ts)) := by
  obtain ⟨q, cap, sv, olds, hs, h'⟩ := fl_open h
  have c1 := fchip_cell h' 1 (.slice (some ⟨q, 0, none⟩) s.data.length cap) rfl
  obtain ⟨hl0, hl1⟩ := fchip_len h'
  obtain ⟨hcap, hr⟩ := fchip_row h'
  have HH := Aside0.mk h
  have HR := Aside0.mk (Kd.R_reads' hr).2.2
  have HF : Aside0 (slices_Clone_byte_byte.f s.data = some s.data) := ⟨by unfold slices_Clone_byte_byte.f; rw [if_pos (by omega)]⟩
  clear h h' hr hs
  go_enter Try.func13, Try.ntmps13
  go_wp2_with (go_at_call 35; (with_reducible refine (slices_Clone_byte_byte.calls _ _ s.data s.data _ HR.out hcap HF.out).mono ?_); rintro e w1 ⟨v1, rfl, hR, hb⟩; have HO := Aside0.mk (HH.out.row_new hR hb); clear hR hb)
  go_ret
  exact ⟨v1, rfl, HO.out⟩
/-- What an idle chip tells. -/
def readV (s : FS) (a : Int) : Int := if s.named = true then (if place s.data a % 2 = 0 then 191 else s.sectors) else rd s.data (place s.data a)
set_option maxHeartbeats 800000 in
theorem read_walk (h : Held w0 w (fl g s :: ts)) (a : Int) (hid : s.left = 0) (hsec : 0 ≤ s.sectors ∧ s.sectors ≤ 255) :
    Calls Try.prog 19 #[ptr g, .int .i64 a] w fun e w' => e = .returned (.int .u8 (readV s a)) ∧ w = w' := by
  obtain ⟨q, cap, sv, olds, hs, h'⟩ := fl_open h
  have c0 := fchip_cell h' 0 (.int .i64 s.sectors) rfl
  have c1 := fchip_cell h' 1 (.slice (some ⟨q, 0, none⟩) s.data.length cap) rfl
  have c3 := fchip_cell h' 3 (.bool s.named) rfl
  have c9 := fchip_cell h' 9 (.int .i64 s.left) rfl
  obtain ⟨hl0, hl1⟩ := fchip_len h'
  obtain ⟨hcap, hr⟩ := fchip_row h'
  obtain ⟨hp0, hp1⟩ := place_bd s.data a hl0
  obtain ⟨hcell, _⟩ := Kd.R_cell (0 : Int) hr (place s.data a) hp0 hp1
  change w.cell? ⟨q, (place s.data a).toNat, none⟩ = some (.int .u8 (rd s.data (place s.data a))) at hcell
  have HA : Hid (Calls Try.prog 36 #[ptr g, .int .i64 a] w fun e w' => e = .returned (.int .i64 (place s.data a)) ∧ w = w') := Lib.hid (at_walk g q s.data.length cap a w c1 hl0)
  clear h h' hr hs
  rw [hid] at c9
  unfold readV
  generalize rd s.data (place s.data a) = y at *
  generalize place s.data a = p at *
  obtain ⟨hs0, hs1⟩ := hsec
  cases hn : s.named with
  | true =>
    rw [hn] at c3
    rw [if_pos rfl]
    by_cases he : p % 2 = 0
    · rw [if_pos he]
      go_enter Try.func19, Try.ntmps19
      go_wp2_with (go_at_call 36; (with_reducible refine HA.out.mono ?_); rintro e w1 ⟨rfl, rfl⟩)
      go_ret
      exact ⟨rfl, rfl⟩
    · rw [if_neg he]
      have hb : (p % 2 == 0) = false := beq_eq_false_iff_ne.2 he
      go_enter Try.func19, Try.ntmps19
      go_wp2_with (go_at_call 36; (with_reducible refine HA.out.mono ?_); rintro e w1 ⟨rfl, rfl⟩)
      go_ret
      exact ⟨rfl, rfl⟩
  | false =>
    rw [hn] at c3
    rw [if_neg (by decide)]
    go_enter Try.func19, Try.ntmps19
    go_wp2_with (go_at_call 36; (with_reducible refine HA.out.mono ?_); rintro e w1 ⟨rfl, rfl⟩)
    go_ret
    exact ⟨rfl, rfl⟩
end
end Go.Proofs.Ytpkgpcolngoicaa.Given
