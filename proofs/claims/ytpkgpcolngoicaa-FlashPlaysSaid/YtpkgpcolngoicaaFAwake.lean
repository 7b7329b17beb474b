/- The chapter's example. -/
import Derived.Test.YtpkgpcolngoicaaAx1
import Derived.Test.YtpkgpcolngoicaaFPure
set_option linter.unusedVariables false
set_option linter.unusedSimpArgs false
namespace Go.Proofs.Ytpkgpcolngoicaa.Given
open Go.RowKit Go.Proofs.Ytpkgpcolngoicaa.All Go.Proofs.Ytpkgpcolngoicaa.Sep Go.Proofs.YtpkgpcolngoicaaW.PrintWords Go.Proofs.YtpkgpcolngoicaaW.PrintLast Go.Proofs.YtpkgpcolngoicaaW.PrintMore
attribute [local go_sem] max2_int min2_int max_two min_two

theorem fill_255 : fillOf [255] (256 * 1) = List.replicate 256 255 := by decide +kernel
theorem c_one (w : World) (x : Int) : (Kd.int .u8).C (w.alloc (.cells #[.int .u8 x] 5)) (some ⟨w.heap.size, 0, none⟩) 1 [x] := by
  refine ⟨rfl, by omega, fun _ => ⟨_, rfl, fun j p hj => ⟨[.int .u8 p], rfl, rfl, fun k u hk => ?_⟩⟩⟩
  have hk0 : k = 0 := by have := (List.getElem?_eq_some_iff.1 hk).1; simp at this; exact this
  have hj0 : j = 0 := by have := (List.getElem?_eq_some_iff.1 hj).1; simp at this; exact this
  subst hk0 hj0
  obtain rfl : x = p := by simpa using hj
  obtain rfl : Value.int .u8 x = u := by simpa using hk
  have := cell_of_block (heap_alloc_new w (.cells #[.int .u8 x] 5)) 0 (.int .u8 x) rfl
  simp [Addr.add]
theorem row_reads {α : Type} {d : Kd α} {e : Nat} {w0 w : World} {ts : List Thing} {A : Option Addr} {n c : Nat} {xs : List α} (h : Held w0 w (row d e (.slice A n c) xs :: ts)) : d.C w A xs.length xs := by
  obtain ⟨A', c', hv, _, hC⟩ := h.row_at
  injection hv with h1 h2 h3
  subst h1
  exact hC
theorem idle_new {n : Int} {xs : List Int} (h0 : 1 ≤ n) (h1 : n ≤ 4) (hl : (xs.length : Int) = 256 * n) : Idle (newS n xs) := ⟨rfl, by show 256 ≤ xs.length; omega, by show xs.length ≤ 1024; omega⟩
/-- A byte is programmed by its four writes. -/
theorem prog_walk {w0 w : World} {ts : List Thing} {g : Nat} {s : FS} (h : Held w0 w (fl g s :: ts)) (hi : Idle s) (hs : s.step = .first .cmd) (a v : Int) :
    ∃ l : List S47, (Calls Try.prog 15 #[.int .i64 a, .int .u8 v] w fun e w' => ∃ A c, e = .returned (.slice A l.length c) ∧ Held w0 w' (fl g s :: row k47 47 (.slice A l.length c) l :: ts)) ∧
      l.length ≤ 100000 ∧ putsS s l = progS s a v := by
  refine ⟨[⟨85, 170⟩, ⟨170, 85⟩, ⟨85, 160⟩, ⟨a, v⟩], ?_, by simp, prog_puts hi hs a v⟩
  refine (keepsakeref11_Program.calls a v _ w rfl).mono fun e w' ⟨v0, he, hR, hb⟩ => ?_
  obtain ⟨A, c, hv⟩ := Kd.R_slice hR
  subst hv
  exact ⟨A, c, he, (h.row_new hR hb).swap⟩
/-- Writes that were made. -/
theorem puts_row {w0 w : World} {ts : List Thing} {g : Nat} {s : FS} {A : Option Addr} {c : Nat} {l : List S47} (h : Held w0 w (fl g s :: row k47 47 (.slice A l.length c) l :: ts)) (hl : l.length ≤ 100000) {s' : FS} (hs : putsS s l = s') :
    Calls Try.prog 14 #[ptr g, .slice A l.length c] w fun e w' => e = .returned (.tuple #[]) ∧ Held w0 w' (fl g s' :: ts) :=
  (puts_walk A c l h (fun W s1 hW => row_reads hW.swap) hl).mono fun e w' ⟨he, hh⟩ => ⟨he, by rw [hs] at hh; exact hh.swap.drop⟩
theorem ticks_to {w0 w : World} {ts : List Thing} {g : Nat} {s : FS} (m : Nat) (h : Held w0 w (fl g s :: ts)) (n : Nat) (hl : s.left = n) (hg : Good s) (hm : m ≤ n) (hn : 0 < n) (hb : n ≤ 1000) {s' : FS} (hs : ticksS s m = s') :
    Calls Try.prog 16 #[ptr g, .int .i64 (m : Int)] w fun e w' => e = .returned (.tuple #[]) ∧ Held w0 w' (fl g s' :: ts) :=
  (ticks_walk m h (fun k hk => ticks_good s n hl hg hn k (by omega)) (by omega)).mono fun e w' ⟨he, hh⟩ => ⟨he, by rw [hs] at hh; exact hh⟩
theorem left_is {w0 w : World} {ts : List Thing} {g : Nat} {s : FS} (h : Held w0 w (fl g s :: ts)) {x : Int} (hx : s.left = x) : Calls Try.prog 18 #[ptr g] w fun e w' => e = .returned (.int .i64 x) ∧ w = w' := by
  have := left_walk h
  rwa [hx] at this
theorem read_is {w0 w : World} {ts : List Thing} {g : Nat} {s : FS} (h : Held w0 w (fl g s :: ts)) (hid : s.left = 0) (hsec : 0 ≤ s.sectors ∧ s.sectors ≤ 255) {a x : Int} (hx : readV s a = x) : Calls Try.prog 19 #[ptr g, .int .i64 a] w fun e w' => e = .returned (.int .u8 x) ∧ w = w' := by
  have := read_walk h a hid hsec
  rwa [hx] at this
set_option maxHeartbeats 1600000 in
theorem awake_walk {w0 w : World} {ts : List Thing} (h : Held w0 w ts) :
    Calls Try.prog 11 #[] w fun e w' => e = .returned (.bool true) ∧ Held w0 w' ts := by
  have hM : Calls Try.prog 12 #[.int .i64 1, .slice (some ⟨w.heap.size, 0, none⟩) 1 1] (w.alloc (.cells #[.int .u8 255] 5)) (Got w0 (newS 1 (fillOf [255] (256 * 1))) ts) :=
    made_walk (some ⟨w.heap.size, 0, none⟩) 1 1 [255] (h.alloc _) (c_one w 255) (Nat.le_refl _) (by simp) (by omega) (by omega)
  rw [fill_255] at hM
  have hl : (List.replicate 256 (255 : Int)).length = 256 := List.length_replicate
  have h7 : ∀ xs : List Int, xs = List.replicate 256 255 → place xs 7 = 7 := fun xs e => place_small _ _ (by omega) (by rw [e, hl]; decide)
  have h8 : ∀ xs : List Int, xs = List.replicate 256 255 → place xs 8 = 8 := fun xs e => place_small _ _ (by omega) (by rw [e, hl]; decide)
  obtain ⟨xs, hxs⟩ : ∃ xs : List Int, List.replicate 256 255 = xs := ⟨_, rfl⟩
  have hi : Idle (newS 1 xs) := idle_new (by omega) (by omega) (by rw [← hxs, hl]; rfl)
  have hd : (doneS (progS (newS 1 xs) 7 15)).data = xs.set 7 15 := by
    rw [prog_done hi]
    show xs.set (place xs 7).toNat (Go.bits .and .u8 (rd xs (place xs 7)) 15) = _
    rw [h7 xs hxs.symm, ← hxs]
    decide +kernel
  have hl2 : (xs.set 7 15).length = 256 := by rw [List.length_set, ← hxs, hl]
  have hr7 : readV (doneS (progS (newS 1 xs) 7 15)) 7 = 15 := by
    show rd (doneS (progS (newS 1 xs) 7 15)).data (place (doneS (progS (newS 1 xs) 7 15)).data 7) = 15
    rw [hd, place_small _ _ (by omega) (by rw [hl2]; decide), ← hxs]
    decide +kernel
  have hr8 : readV (doneS (progS (newS 1 xs) 7 15)) 8 = 255 := by
    show rd (doneS (progS (newS 1 xs) 7 15)).data (place (doneS (progS (newS 1 xs) 7 15)).data 8) = 255
    rw [hd, place_small _ _ (by omega) (by rw [hl2]; decide), ← hxs]
    decide +kernel
  have hg := prog_good hi 7 15
  have ht : ticksS (progS (newS 1 xs) 7 15) 10 = doneS (progS (newS 1 xs) 7 15) := ticks_all _ 10 rfl (by omega)
  rw [hxs] at hM
  have HM := Lib.hid hM
  have HP : Hid (∀ W g, Held w0 W (fl g (newS 1 xs) :: ts) → ∃ l : List S47, (Calls Try.prog 15 #[.int .i64 7, .int .u8 15] W fun e w' => ∃ A c, e = .returned (.slice A l.length c) ∧ Held w0 w' (fl g (newS 1 xs) :: row k47 47 (.slice A l.length c) l :: ts)) ∧
      l.length ≤ 100000 ∧ putsS (newS 1 xs) l = progS (newS 1 xs) 7 15) := Lib.hid (fun W g hW => prog_walk hW hi rfl 7 15)
  have hPl : (progS (newS 1 xs) 7 15).left = 10 := rfl
  have hDl : (doneS (progS (newS 1 xs) 7 15)).left = 0 := rfl
  have hDs : (doneS (progS (newS 1 xs) 7 15)).sectors = 1 := rfl
  generalize progS (newS 1 xs) 7 15 = b at *
  generalize doneS b = d at *
  have HG := Aside0.mk hg
  have HT := Aside0.mk ht
  have HPl := Aside0.mk hPl
  have HDl := Aside0.mk hDl
  have HDs := Aside0.mk hDs
  have H7 := Aside0.mk hr7
  have H8 := Aside0.mk hr8
  clear hM hg ht hPl hDl hDs hr7 hr8 hd h7 h8 hi hl2 hxs hl h
  go_enter Try.func11, Try.ntmps11
  go_wp2_with (first
    | (go_at_call 12; (with_reducible refine HM.out.mono ?_); intro e w1 hm; obtain ⟨g, rfl, hm⟩ := hm; obtain ⟨l, hp1, hp2, hp3⟩ := HP.out _ _ hm; have HP1 := Lib.hid hp1; have HP2 := Aside0.mk hp2; have HP3 := Aside0.mk hp3; clear hm hp1 hp2 hp3)
    | (go_at_call 15; (with_reducible refine HP1.out.mono ?_); rintro e w2 ⟨A2, c2, rfl, h⟩; have HA := Aside0.mk h; clear h)
    | (go_at_call 14; (with_reducible refine (puts_row HA.out HP2.out HP3.out).mono ?_); rintro e w3 ⟨rfl, h⟩; have HB := Aside0.mk h; clear h)
    | (go_at_call 16; (refine (ticks_to 10 HB.out 10 HPl.out HG.out (Nat.le_refl _) (by omega) (by omega) HT.out).mono ?_); rintro e w4 ⟨rfl, h⟩; have HC := Aside0.mk h; clear h)
    | (go_at_call 19; (with_reducible refine (read_is HC.out HDl.out (by rw [HDs.out]; decide) H7.out).mono ?_); rintro e w5 ⟨rfl, rfl⟩)
    | (go_at_call 19; (with_reducible refine (read_is HC.out HDl.out (by rw [HDs.out]; decide) H8.out).mono ?_); rintro e w5 ⟨rfl, rfl⟩)
    | (go_at_call 18; (with_reducible refine (left_is HC.out HDl.out).mono ?_); rintro e w5 ⟨rfl, rfl⟩)
    | (go_at_call 18; (with_reducible refine (left_is HB.out HPl.out).mono ?_); rintro e w5 ⟨rfl, rfl⟩))
  go_ret
  exact ⟨rfl, HC.out.drop⟩
end Go.Proofs.Ytpkgpcolngoicaa.Given
