/- A flash chip is made. -/
import Derived.Test.YtpkgpcolngoicaaFTick
set_option linter.unusedVariables false
set_option linter.unusedSimpArgs false
namespace Go.Proofs.Ytpkgpcolngoicaa.Given
open Go.RowKit Go.Proofs.Ytpkgpcolngoicaa.All Go.Proofs.Ytpkgpcolngoicaa.Sep Go.Proofs.YtpkgpcolngoicaaW.PrintWords Go.Proofs.YtpkgpcolngoicaaW.PrintLast Go.Proofs.YtpkgpcolngoicaaW.PrintMore
attribute [local go_sem] max2_int min2_int max_two min_two

def newS (n : Int) (xs : List Int) : FS := ⟨n, xs, .first .cmd, false, 0, 0, 0, 0, 0, 0, false⟩
section
variable {w0 w : World} {ts : List Thing}
theorem row_block {A : Option Addr} {n c : Nat} {xs : List Int} (h : Held w0 w (row (Kd.int .u8) 5 (.slice A n c) xs :: ts)) (hp : 0 < xs.length) : ∃ q, A = some ⟨q, 0, none⟩ := by
  obtain ⟨f, _, h1, hr⟩ := h.at_
  obtain ⟨q, cap, e, _⟩ := Kd.R_form hr hp
  injection e with e
  exact ⟨q, e⟩
theorem fchip_new {q c : Nat} {xs : List Int} (n : Int) (sv : Value) (h : Held w0 w (row (Kd.int .u8) 5 (.slice (some ⟨q, 0, none⟩) xs.length c) xs :: ts)) (hp : 0 < xs.length) (hl : xs.length ≤ 100000) :
    Held w0 (w.alloc (.cells (cellsOf (newS n xs) q c sv) 65)) (fchip w.heap.size q c (newS n xs) sv [] :: ts) :=
  h.one (fun f _ hf => by
    obtain ⟨h1, hr⟩ := hf
    have hfq := hr.1 q rfl
    obtain ⟨_, hc, _⟩ := Kd.R_reads' hr
    refine ⟨fun k => f k ∨ k = w.heap.size, ⟨.inr rfl, fun k hk => ?_, hp, hl, heap_alloc_new _ _, hc, .inl hfq, ?_, fun x hx => by cases hx⟩, rfl, rfl, rfl, by simp, fun k hk _ => Below.heap_alloc _ _ _ hk, fun k hk => hk.imp id (fun h => by omega)⟩
    · rw [World.size_alloc]
      rcases hk with hk | hk
      · have := h1 k hk; omega
      · omega
    · exact Kd.R_alloc (Kd.R_of_own (Kd.own_of_R hr) (fun k hk => by simpa [Value.ownBlock] using hk.symm)) _)
end
theorem within_walk (a b : Int) (w : World) : Calls Try.prog 47 #[.int .i64 a, .int .i64 b] w fun e w' => e = .returned (.bool (decide (0 ≤ a ∧ a ≤ b))) ∧ w = w' := by
  by_cases h0 : 0 ≤ a
  · by_cases h1 : a ≤ b
    · have e : decide (0 ≤ a ∧ a ≤ b) = true := decide_eq_true ⟨h0, h1⟩
      rw [e]
      go_enter Try.func47, Try.ntmps47
      go_wp2
      go_ret
      exact ⟨by simp [h0, h1], rfl⟩
    · have e : decide (0 ≤ a ∧ a ≤ b) = false := decide_eq_false (fun h => h1 h.2)
      rw [e]
      go_enter Try.func47, Try.ntmps47
      go_wp2
      go_ret
      exact ⟨by simp [h0, h1], rfl⟩
  · have e : decide (0 ≤ a ∧ a ≤ b) = false := decide_eq_false (fun h => h0 h.1)
    rw [e]
    go_enter Try.func47, Try.ntmps47
    go_wp2
    go_ret
    exact ⟨by simp [h0], rfl⟩
def flashOf (n : Int) : Int := if 0 ≤ n ∧ n ≤ 64 then n * 256 else 0
theorem flash_walk (n : Int) (w : World) : Calls Try.prog 38 #[.int .i64 n] w fun e w' => e = .returned (.int .i64 (flashOf n)) ∧ w = w' := by
  have HW := Lib.hid (within_walk n 64 w)
  by_cases h : 0 ≤ n ∧ n ≤ 64
  · have e : decide (0 ≤ n ∧ n ≤ 64) = true := decide_eq_true h
    rw [e] at HW
    have e2 : flashOf n = n * 256 := if_pos h
    rw [e2]
    obtain ⟨h0, h1⟩ := h
    clear e e2
    go_enter Try.func38, Try.ntmps38
    go_wp2_with (go_at_call 47; refine HW.out.mono ?_; rintro e w1 ⟨rfl, rfl⟩)
    go_ret
    exact ⟨rfl, rfl⟩
  · have e : decide (0 ≤ n ∧ n ≤ 64) = false := decide_eq_false h
    rw [e] at HW
    have e2 : flashOf n = 0 := if_neg h
    rw [e2]
    clear e e2 h
    go_enter Try.func38, Try.ntmps38
    go_wp2_with (go_at_call 47; refine HW.out.mono ?_; rintro e w1 ⟨rfl, rfl⟩)
    go_ret
    exact ⟨rfl, rfl⟩
/-- A chip is made, or refused. -/
def Born (w0 : World) (n : Int) (xs : List Int) (ts : List Thing) (e : Ending) (w' : World) : Prop :=
  if 1 ≤ n ∧ n ≤ 64 ∧ (xs.length : Int) = 256 * n then ∃ g, e = .returned (.tuple #[ptr g, .int .i64 0]) ∧ Held w0 w' (fl g (newS n xs) :: ts)
  else e = .returned (.tuple #[.pointer none, .int .i64 1]) ∧ Held w0 w' ts
set_option maxHeartbeats 800000 in
theorem new_ok {w0 w : World} {ts : List Thing} (A : Option Addr) (c : Nat) (n : Int) (xs : List Int) (h : Held w0 w ts) (hr : (Kd.int .u8).C w A xs.length xs) (hc : xs.length ≤ c) (h0 : 1 ≤ n) (h1 : n ≤ 64) (hl : (xs.length : Int) = 256 * n) :
    Calls Try.prog 25 #[.int .i64 n, .slice A xs.length c] w (Born w0 n xs ts) := by
  have HH := Aside0.mk h
  have HR := Aside0.mk hr
  have HF : Aside0 (slices_Clone_byte_byte.f xs = some xs) := ⟨by unfold slices_Clone_byte_byte.f; rw [if_pos (by omega)]⟩
  have hS := flash_walk n w
  have e : flashOf n = (xs.length : Int) := by unfold flashOf; rw [if_pos ⟨by omega, h1⟩, hl]; omega
  rw [e] at hS
  have HS := Lib.hid hS
  have HB : Aside0 (∀ g w', Held w0 w' (fl g (newS n xs) :: ts) → Born w0 n xs ts (.returned (.tuple #[ptr g, .int .i64 0])) w') := ⟨fun g w' h => by unfold Born; rw [if_pos ⟨h0, h1, hl⟩]; exact ⟨g, rfl, h⟩⟩
  have hp : 0 < xs.length := by omega
  have hle : xs.length ≤ 100000 := by omega
  have e1 : ((xs.length : Int) == 0) = false := beq_eq_false_iff_ne.mpr (by omega)
  have e2 : ((xs.length : Int) != (xs.length : Int)) = false := by simp
  have HRest : Hid (∀ W q c sv, Held w0 W (row (Kd.int .u8) 5 (.slice (some ⟨q, 0, none⟩) xs.length c) xs :: ts) → Calls Try.prog 39 #[ptr W.heap.size] (W.alloc (.cells (cellsOf (newS n xs) q c sv) 65)) fun e w' => e = .returned (.tuple #[]) ∧ Held w0 w' (fl W.heap.size (newS n xs) :: ts)) :=
    Lib.hid (fun W q c sv hW => (rest_walk (fchip_new n sv hW hp hle)).mono fun e w' ⟨he, s1, new, k1, k2⟩ => ⟨he, fl_close ⟨q, c, s1, _, k1, k2⟩⟩)
  clear h hr hl hS e
  go_enter Try.func25, Try.ntmps25
  go_wp2_with (first | (go_at_call 38; refine HS.out.mono ?_; rintro e w1 ⟨rfl, rfl⟩) | (go_at_call 35; (with_reducible refine (slices_Clone_byte_byte.calls _ _ xs xs _ HR.out hc HF.out).mono ?_); rintro e w1 ⟨v1, rfl, hR, hb⟩; obtain ⟨A1, c1, rfl⟩ := Kd.R_slice hR; have hho := HH.out.row_new hR hb; obtain ⟨q, rfl⟩ := row_block hho hp; have HO := Aside0.mk hho; clear hR hb hho) | (go_at_call 39; (refine (HRest.out w1 q c1 .nilFunc HO.out).mono ?_); rintro e w2 ⟨rfl, h2⟩; have H2 := Aside0.mk h2; clear h2))
  go_ret2
  exact HB.out _ _ H2.out
theorem new_no {w0 w : World} {ts : List Thing} (A : Option Addr) (c : Nat) (n : Int) (xs : List Int) (h : Held w0 w ts) (hc : xs.length ≤ c) (hx : xs.length ≤ 100000) (hn : ¬ (1 ≤ n ∧ n ≤ 64 ∧ (xs.length : Int) = 256 * n)) :
    Calls Try.prog 25 #[.int .i64 n, .slice A xs.length c] w (Born w0 n xs ts) := by
  have HB : Aside0 (Born w0 n xs ts (.returned (.tuple #[.pointer none, .int .i64 1])) w) := ⟨by unfold Born; rw [if_neg hn]; exact ⟨rfl, h⟩⟩
  have HS := Lib.hid (flash_walk n w)
  by_cases e : flashOf n = 0
  · rw [e] at HS
    clear hn h e
    go_enter Try.func25, Try.ntmps25
    go_wp2_with (go_at_call 38; refine HS.out.mono ?_; rintro e w1 ⟨rfl, rfl⟩)
    go_ret2
    exact HB.out
  · have hb : 0 ≤ n ∧ n ≤ 64 := by
      unfold flashOf at e
      split at e
      · assumption
      · exact absurd rfl e
    have e3 : flashOf n = n * 256 := if_pos hb
    have e1 : (flashOf n == 0) = false := beq_eq_false_iff_ne.mpr e
    have e2 : ((xs.length : Int) != flashOf n) = true := bne_iff_ne.mpr (by omega)
    clear hn h e e3 hb
    generalize flashOf n = m at *
    go_enter Try.func25, Try.ntmps25
    go_wp2_with (go_at_call 38; refine HS.out.mono ?_; rintro e w1 ⟨rfl, rfl⟩)
    go_ret2
    exact HB.out
theorem new_walk {w0 w : World} {ts : List Thing} (A : Option Addr) (c : Nat) (n : Int) (xs : List Int) (h : Held w0 w ts) (hr : (Kd.int .u8).C w A xs.length xs) (hc : xs.length ≤ c) (hx : xs.length ≤ 100000) :
    Calls Try.prog 25 #[.int .i64 n, .slice A xs.length c] w (Born w0 n xs ts) := by
  by_cases hn : 1 ≤ n ∧ n ≤ 64 ∧ (xs.length : Int) = 256 * n
  · exact new_ok A c n xs h hr hc hn.1 hn.2.1 hn.2.2
  · exact new_no A c n xs h hc hx hn
end Go.Proofs.Ytpkgpcolngoicaa.Given
