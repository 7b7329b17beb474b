/- slices.Concat at []byte: new memory with all lists' bytes, one behind the other; slices.Grow of nil. -/
import Derived.Test.YtmlldfkmmmncgaaDoorWMore
import Derived.Test.YtmlldfkmmmncgaaDoorWWords
import Derived.Test.YtmlldfkmmmncgaaDoorWZeros
import Derived.Test.YtmlldfkmmmncgaaDoorProg
import Derived.WalkKit
import Derived.WalkSpells
import Derived.RowKit3
import Derived.Below
import Derived.Lib.SliceRun
import Derived.Lib.Hide
set_option linter.unusedVariables false
set_option linter.unusedSimpArgs false
namespace Go.Proofs.YtmlldfkmmmncgaaDoor.Given
open Go.RowKit Go.Proofs.YtmlldfkmmmncgaaDoorW.PrintWords Go.Proofs.YtmlldfkmmmncgaaDoorW.PrintLast Go.Proofs.YtmlldfkmmmncgaaDoorW.PrintMore

theorem infoC : (Tryd.prog.info? 5).map (fun i => (i.zero, i.size, i.bytes)) = some (some (.int .u8 0), 1, 1) := by kernel_rfl
theorem u8_zero (W : World) (base : Nat) : (Kd.int .u8).M W base (fun _ => False) (0 : Int) (Value.int .u8 0).cells.toList := rfl
set_option maxHeartbeats 1000000 in
theorem grow_nil (n : Nat) (hn : n ≤ 100000000) (w : World) : Calls Tryd.prog 44 #[.slice none 0 0, .int .i64 n] w fun e w' => ∃ v, e = .returned v ∧ (Kd.int .u8).R 5 w' w.heap.size (fun _ => True) v [] ∧ Below w.heap.size w w' := by
  by_cases h0 : n = 0
  · subst h0
    go_enter Tryd.func44, Tryd.ntmps44
    go_wp2_with fail
    go_ret
    exact ⟨_, rfl, Kd.R_nil _ _ _ _ _, Below.refl _ _⟩
  · have h1 : ¬ ((n : Int) ≤ 0) := by omega
    obtain ⟨i0, hi, hz0, hz1, hz2⟩ := info_parts infoC
    go_enter Tryd.func44, Tryd.ntmps44
    go_wp2_with (at_builtin; refine Kd.R_append_zeros (Kd.int .u8) (w0 := w) w.heap.size rfl (.tmp 20) (.tmp 21) 25 3 5 (.int .u8 0) 1 rfl Tryd.underlying25 Tryd.underlying3 infoC rfl (by decide) (by decide) (.slice none 0 0) ([] : List Int) (0 : Int) (n : Int) (fun _ => True) rfl rfl (u8_zero _ _) (fun _ _ => trivial) (Kd.R_nil _ _ _ _ _) (by omega) (Below.refl _ _) (Nat.le_refl _) (by simp; omega) ?_; intro v1 w1 ho hb hg hat; obtain ⟨A1, c1, rfl⟩ := Kd.R_slice ho; have HO := Aside0.mk ho; have HB := Aside0.mk hb; clear ho hb hg hat)
    go_ret
    exact ⟨_, rfl, Kd.R_take (m := 0) HO.out (Nat.zero_le _), HB.out⟩

theorem list_at {w : World} {A : Option Addr} {ls : List (List Int)} (h : (Kd.slice 5 (Kd.int .u8)).C w A ls.length ls) (k : Nat) (hk : k < ls.length) :
    ∃ (ad : Addr) (Ai : Option Addr) (ci : Nat), A = some ad ∧ w.cell? (ad.add k) = some (.slice Ai (ls.getD k []).length ci) ∧ (ls.getD k []).length ≤ ci ∧ (Kd.int .u8).C w Ai (ls.getD k []).length (ls.getD k []) := by
  obtain ⟨ad, c, e, hl, hK, hc⟩ := Kd.C_get h ([] : List Int) (k : Int) (by omega) (by omega)
  rw [Int.toNat_natCast] at hK hc
  obtain ⟨Ai, ci, rfl, hle, hr⟩ := hK
  have h0 := hc 0 _ rfl
  exact ⟨ad, Ai, ci, e, by simpa [show (Kd.slice 5 (Kd.int .u8)).sz = 1 from rfl] using h0, hle, hr⟩
theorem flat_len (ls : List (List Int)) (k : Nat) : (ls.take k).flatten.length ≤ ls.flatten.length := by
  conv => rhs; rw [← List.take_append_drop k ls]
  rw [List.flatten_append, List.length_append]
  omega
theorem flat_succ (ls : List (List Int)) (k : Nat) (hk : k < ls.length) : (ls.take (k + 1)).flatten = (ls.take k).flatten ++ ls.getD k [] := by
  rw [List.take_succ_eq_append_getElem hk, List.flatten_append, List.getD_eq_getElem?_getD, List.getElem?_eq_getElem hk]
  simp
def flen (ls : List (List Int)) (k : Nat) : Nat := (ls.take k).flatten.length
theorem flen_le (ls : List (List Int)) (k : Nat) : flen ls k ≤ ls.flatten.length := flat_len ls k
theorem flen_zero (ls : List (List Int)) : flen ls 0 = 0 := rfl
theorem flen_succ (ls : List (List Int)) (k : Nat) (hk : k < ls.length) : flen ls (k + 1) = flen ls k + (ls.getD k []).length := by unfold flen; rw [flat_succ ls k hk, List.length_append]
def slices_Concat_byte_byte.f (ls : List (List Int)) : Option (List Int) := if ls.length ≤ 100000 ∧ ls.flatten.length ≤ 100000000 then some ls.flatten else none
set_option maxHeartbeats 2000000 in
theorem concat_walk (A0 : Option Addr) (c0 : Nat) (ls : List (List Int)) (w : World) (hr : (Kd.slice 5 (Kd.int .u8)).C w A0 ls.length ls) (hn : ls.length ≤ 100000) (hlen : ls.flatten.length ≤ 100000000) :
    Calls Tryd.prog 33 #[.slice A0 ls.length c0] w fun e w' => ∃ v, e = .returned v ∧ (Kd.int .u8).R 5 w' w.heap.size (fun _ => True) v ls.flatten ∧ Below w.heap.size w w' := by
  have HR := Aside0.mk hr
  have HFS := Lib.hid (flat_succ ls)
  have HFL := Lib.hid (flat_len ls)
  have HL := Lib.hid hlen
  clear hr hlen
  go_enter Tryd.func33, Tryd.ntmps33
  go_wp2_with fail
  go_loop [3, 11] (fun s i => ∃ k : Nat, k ≤ ls.length ∧ i = .int .i64 k ∧ s = .int .i64 (flen ls k)) (fun _ i => ls.length - (intOf i).toNat)
  case atStart => exact ⟨0, Nat.zero_le _, rfl, by rw [flen_zero]; rfl⟩
  case round =>
    obtain ⟨k, hk, rfl, rfl⟩ := hrel
    by_cases hlt : k < ls.length
    · obtain ⟨ad, Ai, ci, rfl, hc, _, _⟩ := list_at HR.out k hlt
      have h4 := flen_succ ls k hlt
      have h5 : flen ls k + (ls.getD k []).length ≤ 100000000 := by rw [← h4]; exact Nat.le_trans (flen_le _ _) HL.out
      have H4 := Lib.hid h4
      clear h4
      generalize flen ls k = a at *
      generalize hb : (ls.getD k []).length = b at *
      clear hb
      have hneg : ¬ ((a : Int) + (b : Int) < 0) := by omega
      go_wp2_with fail
      go_round
      case rel => exact ⟨k + 1, by omega, by simp, by rw [H4.out]; simp⟩
      case measure => simp [intOf]; omega
    · obtain rfl : k = ls.length := by omega
      have h2 : flen ls ls.length ≤ 100000000 := Nat.le_trans (flen_le _ _) HL.out
      go_wp2_with (go_at_call 44; (with_reducible refine (grow_nil _ h2 _).mono ?_); rintro e w1 ⟨v1, rfl, hR, hb⟩; obtain ⟨A1, c1, rfl⟩ := Kd.R_slice hR; have HO := Aside0.mk hR; have HB := Aside0.mk hb; clear hR hb)
      go_loopw [6, 27] (fun v i wr => ∃ k : Nat, k ≤ ls.length ∧ i = .int .i64 k ∧ Aside0 ((Kd.int .u8).R 5 wr w.heap.size (fun _ => True) v (ls.take k).flatten) ∧ Aside0 (Below w.heap.size w wr)) (fun _ i _ => ls.length - (intOf i).toNat)
      case atStart => exact ⟨0, Nat.zero_le _, rfl, HO, HB⟩
      case round =>
        obtain ⟨k, hk, rfl, hO, hB⟩ := hrel
        clear HO HB
        obtain ⟨A2, c2, rfl⟩ := Kd.R_slice hO.out
        by_cases hlt : k < ls.length
        · have hR0 := Kd.C_below HR.out hB.out
          obtain ⟨ad, Ai, ci, rfl, hc, hle, hr⟩ := list_at hR0 k hlt
          clear hR0 HR
          have HRi := Aside0.mk hr
          have h1 := HFS.out k hlt
          have h3 := Nat.le_trans (HFL.out (k + 1)) HL.out
          rw [h1, List.length_append] at h3
          have H1 := Lib.hid h1
          have H3 := Lib.hid h3
          clear h1 h3 hr
          generalize (ls.take k).flatten = xs at hO H1 H3 ⊢
          generalize ls.getD k [] = ys at hc hle HRi H1 H3 ⊢
          go_wp2_with (at_builtin; refine Kd.R_append_rows (Kd.int .u8) (w0 := w) w.heap.size rfl (.tmp 31) (.tmp 32) 25 5 (.int .u8 0) 1 rfl Tryd.underlying25 infoC rfl (by decide) (by omega) (.slice A2 xs.length c2) xs ys _ _ _ (fun _ => True) (fun _ => False) rfl rfl hO.out HRi.out (fun _ _ h => h) (fun _ h => h.elim) (fun _ _ => trivial) hB.out hB.out.size (by have := H3.out; omega) ?_; intro v1 w1 ho hb hg hat; have HO := Aside0.mk ho; have HB := Aside0.mk hb; clear ho hb hg hat)
          go_roundw
          case rel => exact ⟨k + 1, by omega, by simp, ⟨by rw [H1.out]; exact HO.out⟩, HB⟩
          case measure => simp [intOf]; omega
        · obtain rfl : k = ls.length := by omega
          go_wp2_with fail
          go_ret
          have e : (ls.take ls.length).flatten = ls.flatten := by rw [List.take_length]
          exact ⟨_, rfl, by rw [← e]; exact hO.out, hB.out⟩
theorem slices_Concat_byte_byte.calls (A0 : Option Addr) (c0 : Nat) (ls : List (List Int)) (r : List Int) (w : World) (hr : (Kd.slice 5 (Kd.int .u8)).C w A0 ls.length ls) (hc0 : ls.length ≤ c0) (h : slices_Concat_byte_byte.f ls = some r) :
    Calls Tryd.prog 33 #[.slice A0 ls.length c0] w fun e w' => ∃ v0_ : Value, e = .returned (v0_) ∧ Kd.R (Kd.int .u8) 5 w' w.heap.size (fun _ => True) v0_ r ∧ Below w.heap.size w w' := by
  unfold slices_Concat_byte_byte.f at h
  split at h
  · rename_i hb
    injection h with h
    subst h
    exact concat_walk A0 c0 ls w hr hb.1 hb.2
  · cases h

end Go.Proofs.YtmlldfkmmmncgaaDoor.Given
