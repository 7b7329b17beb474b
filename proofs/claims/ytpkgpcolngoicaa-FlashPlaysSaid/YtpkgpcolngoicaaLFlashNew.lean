/- FlashNew: a chip of any number of units with any bytes has these, locked, or it can't be: for every input. -/
import Derived.Test.YtpkgpcolngoicaaAx1
import Derived.Test.YtpkgpcolngoicaaFAwake
import Derived.Test.YtpkgpcolngoicaaSame
set_option linter.unusedVariables false
set_option linter.unusedSimpArgs false
namespace Go.Proofs.Ytpkgpcolngoicaa.Given
open Go.RowKit Go.Proofs.Ytpkgpcolngoicaa.All Go.Proofs.Ytpkgpcolngoicaa.Sep Go.Proofs.YtpkgpcolngoicaaW.PrintWords Go.Proofs.YtpkgpcolngoicaaW.PrintLast Go.Proofs.YtpkgpcolngoicaaW.PrintMore
attribute [local go_sem] max2_int min2_int max_two min_two

def waitV (s : FS) : Value := .agg #[.int .i64 s.wk, .int .i64 s.wf, .int .i64 s.wm, .int .u8 s.wv]
theorem waits_walk {w0 w : World} {ts : List Thing} {g : Nat} {s : FS} (h : Held w0 w (fl g s :: ts)) : Calls Try.prog 27 #[ptr g] w fun e w' => e = .returned (waitV s) ∧ Held w0 w' (fl g s :: ts) := by
  obtain ⟨q, cap, sv, olds, hs, h'⟩ := fl_open h
  have c5 := fchip_cell h' 5 (.int .i64 s.wk) rfl
  have c6 := fchip_cell h' 6 (.int .i64 s.wf) rfl
  have c7 := fchip_cell h' 7 (.int .i64 s.wm) rfl
  have c8 := fchip_cell h' 8 (.int .u8 s.wv) rfl
  obtain ⟨hgl, _⟩ := fchip_lt h'
  have HH := Aside0.mk h
  clear h h' hs
  go_enter Try.func27, Try.ntmps27
  go_wp2
  exact bodyPost_ret (v := waitV s) (by simp [results, Try.results27, go_sem, waitV]) rfl ⟨rfl, HH.out.alloc _⟩
theorem same_yes {w : World} {A0 A1 : Option Addr} {c0 c1 : Nat} {l : List Int} (hr0 : (Kd.int .u8).C w A0 l.length l) (hc0 : l.length ≤ c0) (hr1 : (Kd.int .u8).C w A1 l.length l) (hc1 : l.length ≤ c1) (hl : l.length ≤ 100000) :
    Calls Try.prog 17 #[.slice A0 l.length c0, .slice A1 l.length c1] w fun e w' => e = .returned (.bool true) ∧ Drawn0 w w' :=
  keepsakeref01_Same.calls (l.length + 1) _ _ l _ _ l true w hr0 hc0 hr1 hc1 (by rw [Same.same_f l l (by omega) _ (Nat.le_refl _)]; simp)
theorem ref03_walk (n : Int) (w : World) : Calls Try.prog 26 #[.int .i64 n] w fun e w' => e = .returned (.int .i64 (if n < 0 then 0 else if n > 64 then 0 else 256 * n)) ∧ Drawn0 w w' :=
  keepsakeref03_Flash.calls n _ w (by
    unfold keepsakeref03_Flash.f
    split
    · rfl
    · split
      · rfl
      · congr 1; unfold wrap64; omega)
theorem bytes_is {w0 w : World} {ts : List Thing} {g : Nat} {s : FS} {xs : List Int} (h : Held w0 w (fl g s :: ts)) (hx : s.data = xs) : Calls Try.prog 13 #[ptr g] w (Made w0 xs (fl g s :: ts)) := by
  subst hx
  exact bytes_walk h
theorem waits_is {w0 w : World} {ts : List Thing} {g : Nat} {s : FS} {x : Value} (h : Held w0 w (fl g s :: ts)) (hx : waitV s = x) : Calls Try.prog 27 #[ptr g] w fun e w' => e = .returned x ∧ Held w0 w' (fl g s :: ts) := by
  subst hx
  exact waits_walk h
set_option maxHeartbeats 800000 in
theorem flashNew_yes (n : Int) (A : Option Addr) (c : Nat) (l : List Int) (w : World) (hr : (Kd.int .u8).C w A l.length l) (hc : l.length ≤ c) (h0 : 1 ≤ n) (h1 : n ≤ 64) (hl : (l.length : Int) = 256 * n) (hle : l.length ≤ 1050) :
    Calls Try.prog 8 #[.int .i64 n, .slice A l.length c] w fun e w' => e = .returned (.bool true) ∧ Below w.heap.size w w' := by
  have HW := Lib.hid (awake_walk (Held.nil w))
  have HR := Aside0.mk hr
  have hS := fun w => ref03_walk n w
  have e3 : (if n < 0 then 0 else if n > 64 then 0 else 256 * n) = (l.length : Int) := by rw [if_neg (by omega), if_neg (by omega)]; exact hl.symm
  rw [e3] at hS
  have HS := Lib.hid hS
  have HN : Aside0 (∀ w1, Held w w1 [] → Calls Try.prog 25 #[.int .i64 n, .slice A l.length c] w1 fun e w' => ∃ g, e = .returned (.tuple #[ptr g, .int .i64 0]) ∧ Held w w' [fl g (newS n l)]) :=
    ⟨fun w1 h => (new_walk A c n l h (Kd.C_below hr h.bel) hc (by omega)).mono fun e w' hb => born_got hb h0 h1 hl⟩
  clear hr hS e3 hl
  go_enter Try.func8, Try.ntmps8
  go_wp2_with (first
    | (go_at_call 11; (with_reducible refine HW.out.mono ?_); rintro e w1 ⟨rfl, h⟩; have HA := Aside0.mk h; clear h)
    | (go_at_call 25; (with_reducible refine (HN.out _ HA.out).mono ?_); rintro e w2 ⟨g, rfl, h⟩; have HB := Aside0.mk h; clear h)
    | (go_at_call 26; (with_reducible refine (HS.out _).mono ?_); rintro e w3 ⟨rfl, hd⟩; have HC := Aside0.mk (HB.out.below hd.below); clear hd)
    | (go_at_call 18; (with_reducible refine (left_is (x := 0) HE.out.swap rfl).mono ?_); rintro e w4 ⟨rfl, rfl⟩)
    | (go_at_call 27; (with_reducible refine (waits_is (x := .agg #[.int .i64 0, .int .i64 0, .int .i64 0, .int .u8 0]) HE.out.swap rfl).mono ?_); rintro e w4 ⟨rfl, h⟩; have HF := Aside0.mk h; clear h)
    | (go_at_call 13; (with_reducible refine (bytes_is (xs := l) HC.out rfl).mono ?_); rintro e w5 ⟨v5, rfl, h⟩; obtain ⟨A5, c5, rfl, hc5, hr5⟩ := h.row_at; have HR5 := Aside0.mk hr5; have HD := Aside0.mk h; clear h hr5)
    | (go_at_call 17; (with_reducible refine (same_yes HR5.out hc5 (Kd.C_below HR.out HD.out.bel) hc (by omega)).mono ?_); rintro e w6 ⟨rfl, hd⟩; have HE := Aside0.mk (HD.out.below hd.below); clear hd))
  go_ret
  exact ⟨rfl, HF.out.bel⟩
theorem flashNew_long (n : Int) (A : Option Addr) (c : Nat) (l : List Int) (w : World) (hle : 1050 < l.length) :
    Calls Try.prog 8 #[.int .i64 n, .slice A l.length c] w fun e w' => e = .returned (.bool true) ∧ Below w.heap.size w w' := by
  have HW := Lib.hid (awake_walk (Held.nil w))
  go_enter Try.func8, Try.ntmps8
  go_wp2_with (go_at_call 11; (with_reducible refine HW.out.mono ?_); rintro e w1 ⟨rfl, h⟩; have HA := Aside0.mk h; clear h)
  go_ret
  exact ⟨rfl, HA.out.bel⟩
set_option maxHeartbeats 800000 in
theorem flashNew_no (n : Int) (A : Option Addr) (c : Nat) (l : List Int) (w : World) (hr : (Kd.int .u8).C w A l.length l) (hc : l.length ≤ c) (hn : ¬ (1 ≤ n ∧ n ≤ 64 ∧ (l.length : Int) = 256 * n)) (hle : l.length ≤ 1050) :
    Calls Try.prog 8 #[.int .i64 n, .slice A l.length c] w fun e w' => e = .returned (.bool true) ∧ Below w.heap.size w w' := by
  have HW := Lib.hid (awake_walk (Held.nil w))
  have HN : Aside0 (∀ w1, Held w w1 [] → Calls Try.prog 25 #[.int .i64 n, .slice A l.length c] w1 fun e w' => e = .returned (.tuple #[.pointer none, .int .i64 1]) ∧ Held w w' []) :=
    ⟨fun w1 h => (new_no A c n l h hc (by omega) hn).mono fun e w' hb => by unfold Born at hb; rwa [if_neg hn] at hb⟩
  have HS := Lib.hid (fun w => ref03_walk n w)
  clear hr
  rcases Int.lt_or_le n 1 with h0 | h0
  · clear hn
    go_enter Try.func8, Try.ntmps8
    go_wp2_with (first
      | (go_at_call 11; (with_reducible refine HW.out.mono ?_); rintro e w1 ⟨rfl, h⟩; have HA := Aside0.mk h; clear h)
      | (go_at_call 25; (with_reducible refine (HN.out _ HA.out).mono ?_); rintro e w2 ⟨rfl, h⟩; have HB := Aside0.mk h; clear h))
    go_ret
    exact ⟨rfl, HB.out.bel⟩
  · rcases Int.lt_or_le 64 n with h1 | h1
    · clear hn
      go_enter Try.func8, Try.ntmps8
      go_wp2_with (first
        | (go_at_call 11; (with_reducible refine HW.out.mono ?_); rintro e w1 ⟨rfl, h⟩; have HA := Aside0.mk h; clear h)
        | (go_at_call 25; (with_reducible refine (HN.out _ HA.out).mono ?_); rintro e w2 ⟨rfl, h⟩; have HB := Aside0.mk h; clear h))
      go_ret
      exact ⟨rfl, HB.out.bel⟩
    · have hne : ((l.length : Int) != 256 * n) = true := bne_iff_ne.mpr (fun h => hn ⟨h0, h1, h⟩)
      have e3 : (if n < 0 then 0 else if n > 64 then 0 else 256 * n) = 256 * n := by rw [if_neg (by omega), if_neg (by omega)]
      rw [e3] at HS
      clear hn e3
      generalize 256 * n = m at *
      go_enter Try.func8, Try.ntmps8
      go_wp2_with (first
        | (go_at_call 11; (with_reducible refine HW.out.mono ?_); rintro e w1 ⟨rfl, h⟩; have HA := Aside0.mk h; clear h)
        | (go_at_call 25; (with_reducible refine (HN.out _ HA.out).mono ?_); rintro e w2 ⟨rfl, h⟩; have HB := Aside0.mk h; clear h)
        | (go_at_call 26; (with_reducible refine (HS.out _).mono ?_); rintro e w3 ⟨rfl, hd⟩; have HC := Aside0.mk (HB.out.below hd.below); clear hd))
      go_ret
      exact ⟨rfl, HC.out.bel⟩
theorem flashNew_walk (n : Int) (A : Option Addr) (c : Nat) (l : List Int) (w : World) (hw : (Lit.int .i64 n).wf = true) (hr : (Kd.int .u8).C w A l.length l) (hc : l.length ≤ c) (hb : ∀ x ∈ l, (Lit.int .u8 x).wf = true) :
    Calls Try.prog 8 #[.int .i64 n, .slice A l.length c] w fun e w' => e = .returned (.bool true) ∧ Below w.heap.size w w' := by
  by_cases hle : l.length ≤ 1050
  · by_cases hn : 1 ≤ n ∧ n ≤ 64 ∧ (l.length : Int) = 256 * n
    · exact flashNew_yes n A c l w hr hc hn.1 hn.2.1 hn.2.2 hle
    · exact flashNew_no n A c l w hr hc hn hle
  · exact flashNew_long n A c l w (by omega)
end Go.Proofs.Ytpkgpcolngoicaa.Given
