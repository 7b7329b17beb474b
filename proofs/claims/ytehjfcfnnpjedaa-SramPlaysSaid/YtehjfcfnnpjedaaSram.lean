/- The laws' own helpers: chips made of a few bytes, the chapter's example, operations one behind the other. -/
import Derived.Test.YtehjfcfnnpjedaaAx1
import Derived.Test.YtehjfcfnnpjedaaChip
set_option linter.unusedVariables false
set_option linter.unusedSimpArgs false
namespace Go.Proofs.Ytehjfcfnnpjedaa.Given
open Go.RowKit Go.Proofs.Ytehjfcfnnpjedaa.All Go.Proofs.Ytehjfcfnnpjedaa.Sep Go.Proofs.YtehjfcfnnpjedaaW.PrintWords Go.Proofs.YtehjfcfnnpjedaaW.PrintLast Go.Proofs.YtehjfcfnnpjedaaW.PrintMore
attribute [local go_sem] max2_int min2_int max_two min_two

theorem w64 (n : Int) (h0 : -9223372036854775808 ≤ n) (h1 : n ≤ 9223372036854775807) : wrap64 n = n := by unfold wrap64; omega
theorem fill_l0 (b : List Int) (hb : b.length ≤ 100000) (n : Nat) (hn : n ≤ 100000) (d : Nat) : ∀ (i : Nat) (out : List Int), i + d = n → out.length = n → ∃ r, keepsakeref10_Fill.l0 (d + 1) b n out i = some r ∧ r.length = n := by
  induction d with
  | zero =>
    intro i out hi ho
    refine ⟨out, ?_, ho⟩
    rw [keepsakeref10_Fill.l0, if_neg (by omega)]
  | succ d ih =>
    intro i out hi ho
    rw [keepsakeref10_Fill.l0, if_pos (by omega)]
    by_cases h0 : (b.length : Int) > 0
    · have e : Int.tmod (i : Int) (b.length : Int) = ((i % b.length : Nat) : Int) := by rw [Int.tmod_eq_emod_of_nonneg (by omega)]; omega
      have hm := Nat.mod_lt i (y := b.length) (by omega)
      rw [if_pos h0, if_neg (by omega), e, if_pos (by omega), if_pos (by omega), if_pos (by omega), if_pos (by omega), w64 _ (by omega) (by omega)]
      exact ih (i + 1) _ (by omega) (by rw [List.length_set]; exact ho)
    · rw [if_neg h0]
      exact ⟨out, rfl, ho⟩
def fillOf (b : List Int) (m : Int) : List Int := (keepsakeref10_Fill.f (m.toNat + 1) b m).getD []
theorem fill_f (b : List Int) (hb : b.length ≤ 100000) (m : Int) (h0 : 0 ≤ m) (h1 : m ≤ 100000) : keepsakeref10_Fill.f (m.toNat + 1) b m = some (fillOf b m) ∧ ((fillOf b m).length : Int) = m := by
  obtain ⟨n, rfl⟩ : ∃ n : Nat, m = n := ⟨m.toNat, by omega⟩
  obtain ⟨r, h, hl⟩ := fill_l0 b hb n (by omega) n 0 (List.replicate n 0) (by omega) (by simp)
  have e : keepsakeref10_Fill.f ((n : Int).toNat + 1) b n = some r := by
    unfold keepsakeref10_Fill.f
    rw [if_pos (by omega), if_pos (by omega), Int.toNat_natCast]
    exact h
  have e2 : fillOf b n = r := by unfold fillOf; rw [e]; rfl
  rw [e2]
  exact ⟨e, by omega⟩
/-- A chip that is got. -/
def Got (w0 : World) (o : Bool) (xs : List Int) (ts : List Thing) (e : Ending) (w' : World) : Prop := ∃ g, e = .returned (ptr g) ∧ Held w0 w' (chip g o xs :: ts)
theorem born_got {w0 w' : World} {n : Int} {xs : List Int} {ts : List Thing} {e : Ending} (h : Born w0 n xs ts e w') (h0 : 1 ≤ n) (h1 : n ≤ 128) (hl : (xs.length : Int) = 64 * n) : ∃ g, e = .returned (.tuple #[ptr g, .int .i64 0]) ∧ Held w0 w' (chip g false xs :: ts) := by
  unfold Born at h
  rwa [if_pos ⟨h0, h1, hl⟩] at h
set_option maxHeartbeats 400000 in
theorem made_walk {w0 w : World} {ts : List Thing} (A : Option Addr) (c : Nat) (n : Int) (b : List Int) (h : Held w0 w ts) (hr : (Kd.int .u8).C w A b.length b) (hc : b.length ≤ c) (hb : b.length ≤ 40) (h0 : 1 ≤ n) (h1 : n ≤ 4) :
    Calls Try.prog 10 #[.int .i64 n, .slice A b.length c] w (Got w0 false (fillOf b (64 * n)) ts) := by
  obtain ⟨hF, hL⟩ := fill_f b (by omega) (64 * n) (by omega) (by omega)
  have HH := Aside0.mk h
  have HR := Aside0.mk hr
  have HF := Aside0.mk hF
  have HL := Lib.hid hL
  have hx : (fillOf b (64 * n)).length ≤ 100000 := by omega
  clear h hr hF hL
  generalize hm : fillOf b (64 * n) = xs at *
  clear hm
  go_enter Try.func10, Try.ntmps10
  go_wp2_with (first
    | (go_at_call 9; (with_reducible refine (keepsakeref10_Fill.calls _ _ _ b _ xs _ HR.out hc HF.out).mono ?_); rintro e w1 ⟨v1, rfl, hR, hb1⟩; obtain ⟨A1, c1, rfl⟩ := Kd.R_slice hR; have HR1 := Aside0.mk (Kd.R_reads' hR); have HO := Aside0.mk (HH.out.below hb1); clear hR hb1)
    | (go_at_call 20; (with_reducible refine (new_walk A1 c1 n xs HO.out HR1.out.2.2 HR1.out.2.1 hx).mono ?_); intro e w2 hb2; obtain ⟨g, rfl, hb3⟩ := born_got hb2 h0 (by omega) HL.out; have HG := Aside0.mk hb3; clear hb2 hb3))
  go_ret
  exact ⟨g, rfl, HG.out⟩
theorem read_is {w0 w : World} {ts : List Thing} {g : Nat} {o : Bool} {xs : List Int} {a x : Int} (h : Held w0 w (chip g o xs :: ts)) (hx : rd xs (place xs a) = x) :
    Calls Try.prog 15 #[ptr g, .int .i64 a] w fun e w' => e = .returned (.int .u8 x) ∧ Held w0 w' (chip g o xs :: ts) :=
  (read_walk h a).mono fun e w' ⟨he, hh, _⟩ => ⟨by rw [he, hx], hh⟩
set_option maxHeartbeats 800000 in
theorem awake_walk {w0 w : World} {ts : List Thing} (h : Held w0 w ts) :
    Calls Try.prog 8 #[] w fun e w' => e = .returned (.bool true) ∧ Held w0 w' ts := by
  have hM : Calls Try.prog 10 #[.int .i64 1, .slice none 0 0] w (Got w0 false (fillOf [] (64 * 1)) ts) := made_walk none 0 1 [] h (Kd.C_nil _ _) (Nat.le_refl _) (by simp) (by omega) (by omega)
  obtain ⟨_, hL⟩ := fill_f [] (by simp) (64 * 1) (by omega) (by omega)
  obtain ⟨xs, hxs⟩ : ∃ xs, fillOf [] (64 * 1) = xs := ⟨_, rfl⟩
  rw [hxs] at hL hM
  have HM := Lib.hid hM
  clear h hxs hM
  obtain ⟨ys, hys⟩ : ∃ ys, xs.set (place xs 67).toNat 7 = ys := ⟨_, rfl⟩
  have hp : place xs 67 = 3 := by unfold place mx; rw [hL]; rfl
  have hl : (ys.length : Int) = 64 * 1 := by rw [← hys, List.length_set]; exact hL
  have hq : place ys 3 = 3 := by unfold place mx; rw [hl]; rfl
  have hrd : rd ys (place ys 3) = 7 := by
    rw [hq, ← hys, hp]
    unfold rd
    rw [List.getD_eq_getElem?_getD, List.getElem?_set_self (by omega)]
    rfl
  have HY := Aside0.mk hys
  have HRd := Aside0.mk hrd
  clear hL hl hp hq hys hrd
  go_enter Try.func8, Try.ntmps8
  go_wp2_with (first
    | (go_at_call 10; (with_reducible refine HM.out.mono ?_); intro e w1 hm; obtain ⟨g, rfl, hm⟩ := hm; have HC := Aside0.mk hm; clear hm)
    | (go_at_call 13; (with_reducible refine (write_shut HC.out 3 7).mono ?_); rintro e w2 ⟨rfl, rfl⟩)
    | (go_at_call 14; (with_reducible refine (latch_walk HC.out 165).mono ?_); rintro e w2 ⟨rfl, hl⟩; have HC2 := Aside0.mk (p := Held w0 w2 (chip g true xs :: ts)) hl; clear hl)
    | (go_at_call 13; (with_reducible refine (write_open HC2.out 67 7).mono ?_); rintro e w3 ⟨rfl, hl⟩; have HC3 := Aside0.mk (p := Held w0 w3 (chip g true ys :: ts)) (HY.out ▸ hl); clear hl)
    | (go_at_call 15; (with_reducible refine (read_is HC3.out HRd.out).mono ?_); rintro e w4 ⟨rfl, hl⟩; have HC4 := Aside0.mk hl; clear hl)
    | (go_at_call 12; (with_reducible refine (locked_walk HC4.out).mono ?_); rintro e w5 ⟨rfl, rfl⟩))
  go_ret
  exact ⟨rfl, HC4.out.drop⟩

/-! ### operations, one behind the other -/
abbrev St := Bool × List Int
def act (s : St) (p : S34) : St := if p.f0 = 0 then (s.1, if s.1 = true then s.2.set (place s.2 p.f1).toNat p.f2 else s.2) else if p.f0 = 1 then (p.f2 == 165, s.2) else s
def run (s : St) (l : List S34) : St := l.foldl act s
def opAt (l : List S34) (k : Nat) : S34 := l.getD k z34
theorem run_succ (s : St) (l : List S34) (k : Nat) (hk : k < l.length) : run s (l.take (k + 1)) = act (run s (l.take k)) (opAt l k) := by
  unfold run opAt
  rw [List.take_succ_eq_append_getElem hk, List.foldl_append, List.getD_eq_getElem?_getD, List.getElem?_eq_getElem hk]
  rfl
def chipS (g : Nat) (s : St) : Thing := chip g s.1 s.2
theorem ops_at {w0 : World} {A : Option Addr} {l : List S34} (hr : Kd.C k34 w0 A l.length l) (k : Nat) (hk : k < l.length) :
    ∃ ad, A = some ad ∧ ∀ W, Below w0.heap.size w0 W → W.cell? (ad.add (k * 3)) = some (.int .u8 (opAt l k).f0) ∧ W.cell? ⟨(ad.add (k * 3)).block, (ad.add (k * 3)).off + 1, none⟩ = some (.int .i64 (opAt l k).f1) ∧ W.cell? ⟨(ad.add (k * 3)).block, (ad.add (k * 3)).off + 2, none⟩ = some (.int .u8 (opAt l k).f2) := by
  obtain ⟨ad, e, _⟩ := at_T34 hr (k : Int) (by omega) (by omega)
  refine ⟨ad, e, fun W hb => ?_⟩
  obtain ⟨ad', e', h⟩ := at_T34 (Kd.C_below hr hb) (k : Int) (by omega) (by omega)
  rw [e] at e'
  injection e' with e'
  subst e'
  exact h
theorem write_walk {w0 w : World} {ts : List Thing} {g : Nat} {o : Bool} {xs : List Int} (h : Held w0 w (chip g o xs :: ts)) (a v : Int) :
    Calls Try.prog 13 #[ptr g, .int .i64 a, .int .u8 v] w fun e w' => e = .returned (.bool o) ∧ Held w0 w' (chipS g (act (o, xs) ⟨0, a, v⟩) :: ts) := by
  cases o with
  | false => exact (write_shut h a v).mono fun e w' ⟨he, hw⟩ => ⟨he, by subst hw; exact h⟩
  | true => exact write_open h a v
set_option maxHeartbeats 800000 in
theorem do_walk {w0 w : World} {ts : List Thing} {g : Nat} {s : St} (A : Option Addr) (c : Nat) (l : List S34) (h : Held w0 w (chipS g s :: ts)) (hr : Kd.C k34 w0 A l.length l) (hl : l.length ≤ 100000) :
    Calls Try.prog 22 #[ptr g, .slice A l.length c] w fun e w' => e = .returned (.tuple #[]) ∧ Held w0 w' (chipS g (run s l) :: ts) := by
  have HH := Aside0.mk h
  have HR := Aside0.mk hr
  clear h hr
  go_enter Try.func22, Try.ntmps22
  go_wp2
  go_loopw [4] (fun i wr => ∃ k : Nat, k ≤ l.length ∧ i = .int .i64 k ∧ Aside0 (Held w0 wr (chipS g (run s (l.take k)) :: ts))) (fun i _ => l.length - (intOf i).toNat)
  case atStart => exact ⟨0, Nat.zero_le _, rfl, HH⟩
  case round =>
    obtain ⟨k, hk, rfl, hH⟩ := hrel
    clear HH
    by_cases hlt : k < l.length
    · obtain ⟨ad, rfl, hc⟩ := ops_at HR.out k hlt
      have HS := Aside0.mk (run_succ s l k hlt)
      have HC := Lib.hid hc
      obtain ⟨h0, h1, h2⟩ := hc _ hH.out.bel
      clear hc
      generalize hy : opAt l k = y at *
      obtain ⟨y0, y1, y2⟩ := y
      simp only at h0 h1 h2 HC
      generalize run s (l.take k) = t at *
      obtain ⟨o, xs⟩ := t
      have HI : Aside0 (Held w0 wr (chip g o xs :: ts)) := ⟨hH.out⟩
      clear hy hH
      by_cases c0 : y0 = 0
      · subst c0
        go_wp2
        go_still_tail 11, (by kernel_rfl)
        go_wp2_with (go_at_call 13; (with_reducible refine (write_walk HI.out.drew y1 y2).mono ?_); rintro e w1 ⟨rfl, h⟩; obtain ⟨h3, _, _⟩ := HC.out _ h.bel; have HO := Aside0.mk h; clear h)
        go_roundw
        case rel => exact ⟨k + 1, by omega, by go_num, by rw [HS.out]; exact HO⟩
        case measure => simp [intOf]; omega
      · have d0 : (y0 == 0) = false := beq_eq_false_iff_ne.mpr c0
        have e0 : act (o, xs) ⟨y0, y1, y2⟩ = if y0 = 1 then (y2 == 165, xs) else (o, xs) := by unfold act; rw [if_neg c0]
        have HE := Lib.hid e0
        clear e0
        by_cases c1 : y0 = 1
        · subst c1
          go_wp2
          go_still_tail 8, (by kernel_rfl)
          go_wp2_with (go_at_call 14; (with_reducible refine (latch_walk HI.out.drew y2).mono ?_); rintro e w1 ⟨rfl, h⟩; have HO := Aside0.mk h; clear h)
          go_roundw
          case rel => exact ⟨k + 1, by omega, by go_num, by rw [HS.out, HE.out, if_pos trivial]; exact HO⟩
          case measure => simp [intOf]; omega
        · have d1 : (y0 == 1) = false := beq_eq_false_iff_ne.mpr c1
          rw [if_neg c1] at HE
          clear c0 c1
          go_wp2
          go_roundw
          case rel => exact ⟨k + 1, by omega, by go_num, by rw [HS.out, HE.out]; exact HI⟩
          case measure => simp [intOf]; omega
    · obtain rfl : k = l.length := by omega
      go_wp2
      go_end0
      exact ⟨rfl, by have := hH.out; rwa [List.take_length] at this⟩
end Go.Proofs.Ytehjfcfnnpjedaa.Given
