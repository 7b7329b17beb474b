/- The laws' own helpers: flash chips made of a few bytes, writes, cycles, the chapter's example. -/
import Derived.Test.YtpkgpcolngoicaaAx1
import Derived.Test.YtpkgpcolngoicaaFNew
set_option linter.unusedVariables false
set_option linter.unusedSimpArgs false
namespace Go.Proofs.Ytpkgpcolngoicaa.Given
open Go.RowKit Go.Proofs.Ytpkgpcolngoicaa.All Go.Proofs.Ytpkgpcolngoicaa.Sep Go.Proofs.YtpkgpcolngoicaaW.PrintWords Go.Proofs.YtpkgpcolngoicaaW.PrintLast Go.Proofs.YtpkgpcolngoicaaW.PrintMore
attribute [local go_sem] max2_int min2_int max_two min_two

theorem w64 (n : Int) (h0 : -9223372036854775808 ≤ n) (h1 : n ≤ 9223372036854775807) : wrap64 n = n := by unfold wrap64; omega
theorem fill_l0 (b : List Int) (hb : b.length ≤ 100000) (n : Nat) (hn : n ≤ 100000) (d : Nat) : ∀ (i : Nat) (out : List Int), i + d = n → out.length = n → ∃ r, keepsakeref10_Fill.l0 (d + 1) b n out i = some r ∧ r.length = n := by
  induction d with
  | zero =>
    intro i out hi ho
    refine ⟨out, ?_, ho⟩
    rw [keepsakeref10_Fill.l0, if_neg (by omega)]
  | succ d ih =>
    intro i out hi ho
    rw [keepsakeref10_Fill.l0, if_pos (by omega)]
    by_cases h0 : (b.length : Int) > 0
    · have e : Int.tmod (i : Int) (b.length : Int) = ((i % b.length : Nat) : Int) := by rw [Int.tmod_eq_emod_of_nonneg (by omega)]; omega
      have hm := Nat.mod_lt i (y := b.length) (by omega)
      rw [if_pos h0, if_neg (by omega), e, if_pos (by omega), if_pos (by omega), if_pos (by omega), if_pos (by omega), w64 _ (by omega) (by omega)]
      exact ih (i + 1) _ (by omega) (by rw [List.length_set]; exact ho)
    · rw [if_neg h0]
      exact ⟨out, rfl, ho⟩
def fillOf (b : List Int) (m : Int) : List Int := (keepsakeref10_Fill.f (m.toNat + 1) b m).getD []
theorem fill_f (b : List Int) (hb : b.length ≤ 100000) (m : Int) (h0 : 0 ≤ m) (h1 : m ≤ 100000) : keepsakeref10_Fill.f (m.toNat + 1) b m = some (fillOf b m) ∧ ((fillOf b m).length : Int) = m := by
  obtain ⟨n, rfl⟩ : ∃ n : Nat, m = n := ⟨m.toNat, by omega⟩
  obtain ⟨r, h, hl⟩ := fill_l0 b hb n (by omega) n 0 (List.replicate n 0) (by omega) (by simp)
  have e : keepsakeref10_Fill.f ((n : Int).toNat + 1) b n = some r := by
    unfold keepsakeref10_Fill.f
    rw [if_pos (by omega), if_pos (by omega), Int.toNat_natCast]
    exact h
  have e2 : fillOf b n = r := by unfold fillOf; rw [e]; rfl
  rw [e2]
  exact ⟨e, by omega⟩
/-- A chip that is got. -/
def Got (w0 : World) (s : FS) (ts : List Thing) (e : Ending) (w' : World) : Prop := ∃ g, e = .returned (ptr g) ∧ Held w0 w' (fl g s :: ts)
theorem born_got {w0 w' : World} {n : Int} {xs : List Int} {ts : List Thing} {e : Ending} (h : Born w0 n xs ts e w') (h0 : 1 ≤ n) (h1 : n ≤ 64) (hl : (xs.length : Int) = 256 * n) : ∃ g, e = .returned (.tuple #[ptr g, .int .i64 0]) ∧ Held w0 w' (fl g (newS n xs) :: ts) := by
  unfold Born at h
  rwa [if_pos ⟨h0, h1, hl⟩] at h
set_option maxHeartbeats 400000 in
theorem made_walk {w0 w : World} {ts : List Thing} (A : Option Addr) (c : Nat) (n : Int) (b : List Int) (h : Held w0 w ts) (hr : (Kd.int .u8).C w A b.length b) (hc : b.length ≤ c) (hb : b.length ≤ 40) (h0 : 1 ≤ n) (h1 : n ≤ 4) :
    Calls Try.prog 12 #[.int .i64 n, .slice A b.length c] w (Got w0 (newS n (fillOf b (256 * n))) ts) := by
  obtain ⟨hF, hL⟩ := fill_f b (by omega) (256 * n) (by omega) (by omega)
  have HH := Aside0.mk h
  have HR := Aside0.mk hr
  have HF := Aside0.mk hF
  have HL := Lib.hid hL
  have hx : (fillOf b (256 * n)).length ≤ 100000 := by omega
  clear h hr hF hL
  generalize hm : fillOf b (256 * n) = xs at *
  clear hm
  go_enter Try.func12, Try.ntmps12
  go_wp2_with (first
    | (go_at_call 22; (with_reducible refine (keepsakeref10_Fill.calls _ _ _ b _ xs _ HR.out hc HF.out).mono ?_); rintro e w1 ⟨v1, rfl, hR, hb1⟩; obtain ⟨A1, c1, rfl⟩ := Kd.R_slice hR; have HR1 := Aside0.mk (Kd.R_reads' hR); have HO := Aside0.mk (HH.out.below hb1); clear hR hb1)
    | (go_at_call 25; (with_reducible refine (new_walk A1 c1 n xs HO.out HR1.out.2.2 HR1.out.2.1 hx).mono ?_); intro e w2 hb2; obtain ⟨g, rfl, hb3⟩ := born_got hb2 h0 (by omega) HL.out; have HG := Aside0.mk hb3; clear hb2 hb3))
  go_ret
  exact ⟨g, rfl, HG.out⟩
def putsS (s : FS) (l : List S47) : FS := l.foldl (fun s p => writeS s p.f0 p.f1) s
def putAt (l : List S47) (k : Nat) : S47 := l.getD k z47
theorem puts_succ (s : FS) (l : List S47) (k : Nat) (hk : k < l.length) : putsS s (l.take (k + 1)) = writeS (putsS s (l.take k)) (putAt l k).f0 (putAt l k).f1 := by
  unfold putsS putAt
  rw [List.take_succ_eq_append_getElem hk, List.foldl_append, List.getD_eq_getElem?_getD, List.getElem?_eq_getElem hk]
  rfl
theorem put_at {w : World} {A : Option Addr} {l : List S47} (hr : Kd.C k47 w A l.length l) (k : Nat) (hk : k < l.length) :
    ∃ ad, A = some ad ∧ w.cell? (ad.add (k * 2)) = some (.int .i64 (putAt l k).f0) ∧ w.cell? ⟨(ad.add (k * 2)).block, (ad.add (k * 2)).off + 1, none⟩ = some (.int .u8 (putAt l k).f1) := by
  obtain ⟨ad, e, h⟩ := at_T47 hr (k : Int) (by omega) (by omega)
  exact ⟨ad, e, h⟩
set_option maxHeartbeats 800000 in
theorem puts_walk {w0 w : World} {ts : List Thing} {g : Nat} {s : FS} (A : Option Addr) (c : Nat) (l : List S47) (h : Held w0 w (fl g s :: ts)) (hr : ∀ W s', Held w0 W (fl g s' :: ts) → Kd.C k47 W A l.length l) (hl : l.length ≤ 100000) :
    Calls Try.prog 14 #[ptr g, .slice A l.length c] w fun e w' => e = .returned (.tuple #[]) ∧ Held w0 w' (fl g (putsS s l) :: ts) := by
  have HH := Aside0.mk h
  have HR := Aside0.mk hr
  clear h hr
  go_enter Try.func14, Try.ntmps14
  go_wp2
  go_loopw [4] (fun i wr => ∃ k : Nat, k ≤ l.length ∧ i = .int .i64 k ∧ Aside0 (Held w0 wr (fl g (putsS s (l.take k)) :: ts))) (fun i _ => l.length - (intOf i).toNat)
  case atStart => exact ⟨0, Nat.zero_le _, rfl, HH⟩
  case round =>
    obtain ⟨k, hk, rfl, hH⟩ := hrel
    clear HH
    by_cases hlt : k < l.length
    · obtain ⟨ad, rfl, h0, h1⟩ := put_at (HR.out _ _ hH.out) k hlt
      have HS := Aside0.mk (puts_succ s l k hlt)
      generalize hy : putAt l k = y at *
      obtain ⟨y0, y1⟩ := y
      simp only at h0 h1
      generalize putsS s (l.take k) = t at *
      clear hy
      have hlt' : (k : Int) < (l.length : Int) := by omega
      go_wp2
      go_still_tail 11, (by kernel_rfl)
      go_wp2_with (go_at_call 23; (with_reducible refine (write_walk hH.out.drew y0 y1).mono ?_); rintro e w1 ⟨rfl, h⟩; have HO := Aside0.mk h; clear h)
      go_roundw
      case rel => exact ⟨k + 1, by omega, by go_num, by rw [HS.out]; exact HO⟩
      case measure => simp [intOf]; omega
    · obtain rfl : k = l.length := by omega
      go_wp2
      go_end0
      exact ⟨rfl, by have := hH.out; rwa [List.take_length] at this⟩
def ticksS (s : FS) : Nat → FS
  | 0 => s
  | k + 1 => tickS (ticksS s k)
set_option maxHeartbeats 800000 in
theorem ticks_walk {w0 w : World} {ts : List Thing} {g : Nat} {s : FS} (m : Nat) (h : Held w0 w (fl g s :: ts)) (hg : ∀ k, k ≤ m → Good (ticksS s k)) (hm : m ≤ 100000) :
    Calls Try.prog 16 #[ptr g, .int .i64 (m : Int)] w fun e w' => e = .returned (.tuple #[]) ∧ Held w0 w' (fl g (ticksS s m) :: ts) := by
  have HH := Aside0.mk h
  have HG := Aside0.mk hg
  clear h hg
  go_enter Try.func16, Try.ntmps16
  go_wp2
  go_loopw [4] (fun i wr => ∃ k : Nat, k ≤ m ∧ i = .int .i64 k ∧ Aside0 (Held w0 wr (fl g (ticksS s k) :: ts))) (fun i _ => m - (intOf i).toNat)
  case atStart => exact ⟨0, Nat.zero_le _, rfl, HH⟩
  case round =>
    obtain ⟨k, hk, rfl, hH⟩ := hrel
    clear HH
    by_cases hlt : k < m
    · have hlt' : (k : Int) < (m : Int) := by omega
      go_wp2_with (go_at_call 24; (with_reducible refine (tick_walk hH.out (HG.out k hk)).mono ?_); rintro e w1 ⟨rfl, h⟩; have HO : Aside0 (Held w0 w1 (fl g (ticksS s (k + 1)) :: ts)) := ⟨h⟩; clear h)
      go_roundw
      case rel => exact ⟨k + 1, by omega, by go_num, HO⟩
      case measure => simp [intOf]; omega
    · obtain rfl : k = m := by omega
      go_wp2
      go_end0
      exact ⟨rfl, hH.out⟩
end Go.Proofs.Ytpkgpcolngoicaa.Given
