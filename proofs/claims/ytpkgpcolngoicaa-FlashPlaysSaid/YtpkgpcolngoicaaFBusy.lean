/- A flash chip that is busy is read; writes do nothing. -/
import Derived.Test.YtpkgpcolngoicaaLFlashPrograms
set_option linter.unusedVariables false
set_option linter.unusedSimpArgs false
namespace Go.Proofs.Ytpkgpcolngoicaa.Given
open Go.RowKit Go.Proofs.Ytpkgpcolngoicaa.All Go.Proofs.Ytpkgpcolngoicaa.Sep Go.Proofs.YtpkgpcolngoicaaW.PrintWords Go.Proofs.YtpkgpcolngoicaaW.PrintLast Go.Proofs.YtpkgpcolngoicaaW.PrintMore
attribute [local go_sem] max2_int min2_int max_two min_two

def topBit (v : Int) : Int := Go.bits .and .u8 (Go.bits .xor .u8 255 v) 128
def statusV (s : FS) : Int := if s.wk = 1 then Go.bits .or .u8 s.turn (topBit s.wv) else s.turn
def togS (s : FS) : FS := { s with turn := Go.bits .xor .u8 s.turn 64 }
section
variable {w0 w : World} {ts : List Thing} {g : Nat} {s : FS}
set_option maxHeartbeats 800000 in
theorem read_busy (h : Held w0 w (fl g s :: ts)) (a : Int) (hb : 0 < s.left) :
    Calls Try.prog 19 #[ptr g, .int .i64 a] w fun e w' => e = .returned (.int .u8 (statusV s)) ∧ Held w0 w' (fl g (togS s) :: ts) := by
  obtain ⟨q, cap, sv, olds, hs, h'⟩ := fl_open h
  have c1 := fchip_cell h' 1 (.slice (some ⟨q, 0, none⟩) s.data.length cap) rfl
  have c4 := fchip_cell h' 4 (.int .u8 s.turn) rfl
  have f4 := fchip_frozen h' 4
  have c5 := fchip_cell h' 5 (.int .i64 s.wk) rfl
  have c8 := fchip_cell h' 8 (.int .u8 s.wv) rfl
  have c9 := fchip_cell h' 9 (.int .i64 s.left) rfl
  obtain ⟨hl0, hl1⟩ := fchip_len h'
  obtain ⟨hp0, hp1⟩ := place_bd s.data a hl0
  have HA : Hid (Calls Try.prog 36 #[ptr g, .int .i64 a] w fun e w' => e = .returned (.int .i64 (place s.data a)) ∧ w = w') := Lib.hid (at_walk g q s.data.length cap a w c1 hl0)
  have HT : Aside0 (Held w0 (w.setCell ⟨g, 4, none⟩ (.int .u8 (Go.bits .xor .u8 s.turn 64))) (fl g (togS s) :: ts)) :=
    ⟨fl_close ⟨q, cap, sv, olds, hs, fchip_store h' 4 (.int .u8 (Go.bits .xor .u8 s.turn 64)) (togS s) sv (by simp [cellsOf, togS]) rfl⟩⟩
  clear h h' hs
  unfold statusV topBit
  generalize place s.data a = p at *
  obtain ⟨t, ht⟩ : ∃ t, s.turn = t := ⟨_, rfl⟩
  obtain ⟨k, hk⟩ : ∃ k, s.wk = k := ⟨_, rfl⟩
  obtain ⟨v, hv⟩ : ∃ v, s.wv = v := ⟨_, rfl⟩
  obtain ⟨m, hm⟩ : ∃ m, s.left = m := ⟨_, rfl⟩
  rw [ht] at c4 HT ⊢
  rw [hk] at c5 ⊢
  rw [hv] at c8 ⊢
  rw [hm] at c9 hb
  clear ht hk hv hm
  by_cases hk1 : k = 1
  · rw [if_pos hk1]
    subst hk1
    go_enter Try.func19, Try.ntmps19
    go_wp2_with (go_at_call 36; (with_reducible refine HA.out.mono ?_); rintro e w1 ⟨rfl, rfl⟩)
    go_ret
    exact ⟨rfl, HT.out⟩
  · rw [if_neg hk1]
    have hkb : (k == 1) = false := beq_eq_false_iff_ne.2 hk1
    clear hk1
    go_enter Try.func19, Try.ntmps19
    go_wp2_with (go_at_call 36; (with_reducible refine HA.out.mono ?_); rintro e w1 ⟨rfl, rfl⟩)
    go_ret
    exact ⟨rfl, HT.out⟩
end
theorem write_busy {s : FS} (h : 0 < s.left) (a v : Int) : writeS s a v = s := if_pos h
theorem puts_busy {s : FS} (h : 0 < s.left) (l : List S47) : putsS s l = s := by
  unfold putsS
  induction l with
  | nil => rfl
  | cons p l ih => rw [List.foldl_cons, write_busy h]; exact ih
end Go.Proofs.Ytpkgpcolngoicaa.Given
