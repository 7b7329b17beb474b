/- A flash chip: a cycle. -/
import Derived.Test.YtpkgpcolngoicaaFTake
set_option linter.unusedVariables false
set_option linter.unusedSimpArgs false
namespace Go.Proofs.Ytpkgpcolngoicaa.Given
open Go.RowKit Go.Proofs.Ytpkgpcolngoicaa.All Go.Proofs.Ytpkgpcolngoicaa.Sep Go.Proofs.YtpkgpcolngoicaaW.PrintWords Go.Proofs.YtpkgpcolngoicaaW.PrintLast Go.Proofs.YtpkgpcolngoicaaW.PrintMore
attribute [local go_sem] max2_int min2_int max_two min_two

def wroteV (s : FS) (y : Int) : Int := if s.wk = 1 then Go.bits .and .u8 y s.wv else 255
def wrote (s : FS) : Nat → List Int
  | 0 => s.data
  | k + 1 => (wrote s k).set (s.wf + k).toNat (wroteV s (rd (wrote s k) (s.wf + k)))
theorem wrote_len (s : FS) (k : Nat) : (wrote s k).length = s.data.length := by
  induction k with
  | zero => rfl
  | succ k ih => rw [wrote, List.length_set, ih]
def tickS (s : FS) : FS := if s.left = 0 then s else if 1 < s.left then { s with left := s.left - 1 } else { s with left := 0, data := wrote s s.wm.toNat, wk := 0, wf := 0, wm := 0, wv := 0 }
/-- While it is busy it is busy with places that it has. -/
structure Good (s : FS) : Prop where
  l0 : 0 ≤ s.left
  l1 : s.left ≤ 200
  f0 : 0 ≤ s.wf
  m0 : 0 ≤ s.wm
  fm : s.wf + s.wm ≤ s.data.length
theorem fchip_lt {w0 w : World} {ts : List Thing} {g q cap : Nat} {s : FS} {sv : Value} {olds : List Old} (h : Held w0 w (fchip g q cap s sv olds :: ts)) : g < w.heap.size ∧ q < w.heap.size := by
  obtain ⟨f, hf⟩ := fchip_in h
  exact ⟨hf.lt _ hf.at_, hf.lt _ hf.fq⟩
section
variable {w0 w : World} {ts : List Thing} {g : Nat} {s : FS}
theorem tick_idle (h : Held w0 w (fl g s :: ts)) (hl : s.left = 0) : Calls Try.prog 24 #[ptr g] w fun e w' => e = .returned (.tuple #[]) ∧ Held w0 w' (fl g s :: ts) := by
  obtain ⟨q, cap, sv, olds, hs, h'⟩ := fl_open h
  have c9 := fchip_cell h' 9 (.int .i64 s.left) rfl
  rw [hl] at c9
  have HH := Aside0.mk h
  clear h h' hs
  go_enter Try.func24, Try.ntmps24
  go_wp2
  exact bodyPost_ret (results_none rfl _ _ _) rfl ⟨rfl, HH.out⟩
theorem tick_more (h : Held w0 w (fl g s :: ts)) (hl : 1 < s.left) (hl2 : s.left ≤ 200) : Calls Try.prog 24 #[ptr g] w fun e w' => e = .returned (.tuple #[]) ∧ Held w0 w' (fl g { s with left := s.left - 1 } :: ts) := by
  obtain ⟨q, cap, sv, olds, hs, h'⟩ := fl_open h
  have c9 := fchip_cell h' 9 (.int .i64 s.left) rfl
  have f9 := fchip_frozen h' 9
  have HH : Aside0 (Held w0 (w.setCell ⟨g, 9, none⟩ (.int .i64 (s.left - 1))) (fl g { s with left := s.left - 1 } :: ts)) := ⟨fl_close ⟨q, cap, sv, olds, hs, fchip_store h' 9 (.int .i64 (s.left - 1)) { s with left := s.left - 1 } sv (by simp [cellsOf]) rfl⟩⟩
  clear h h' hs
  obtain ⟨m, hm⟩ : ∃ m, s.left = m := ⟨_, rfl⟩
  rw [hm] at c9 hl hl2 HH ⊢
  clear hm
  have hb : (m == 0) = false := beq_eq_false_iff_ne.2 (by omega)
  go_enter Try.func24, Try.ntmps24
  go_wp2
  exact bodyPost_ret (results_none rfl _ _ _) rfl ⟨rfl, HH.out⟩
theorem box_kept {w : World} {B : Nat} {cs : Array Value} {t : TypeId} (h : w.heap[B]? = some (.cells cs t (0, 0))) {q : Nat} (hq : q ≠ B) (j : Nat) (v : Value) : (w.setCell ⟨q, j, none⟩ v).heap[B]? = some (.cells cs t (0, 0)) :=
  (Below.heap_setCell _ _ _ _ (Ne.symm hq)).trans h
theorem fchip_clear {q cap : Nat} {sv : Value} {olds : List Old} (h : Held w0 w (fchip g q cap s sv olds :: ts)) :
    Held w0 ((((w.setCell ⟨g, 5, none⟩ (.int .i64 0)).setCell ⟨g, 6, none⟩ (.int .i64 0)).setCell ⟨g, 7, none⟩ (.int .i64 0)).setCell ⟨g, 8, none⟩ (.int .u8 0)) (fchip g q cap { s with wk := 0, wf := 0, wm := 0, wv := 0 } sv olds :: ts) := by
  have h1 := fchip_store h 5 (.int .i64 0) { s with wk := 0 } sv (by simp [cellsOf]) rfl
  have h2 := fchip_store h1 6 (.int .i64 0) { s with wk := 0, wf := 0 } sv (by simp [cellsOf]) rfl
  have h3 := fchip_store h2 7 (.int .i64 0) { s with wk := 0, wf := 0, wm := 0 } sv (by simp [cellsOf]) rfl
  exact fchip_store h3 8 (.int .u8 0) { s with wk := 0, wf := 0, wm := 0, wv := 0 } sv (by simp [cellsOf]) rfl
set_option maxHeartbeats 1600000 in
theorem tick_last (h : Held w0 w (fl g s :: ts)) (hg : Good s) (hl : s.left = 1) :
    Calls Try.prog 24 #[ptr g] w fun e w' => e = .returned (.tuple #[]) ∧ Held w0 w' (fl g { s with left := 0, data := wrote s s.wm.toNat, wk := 0, wf := 0, wm := 0, wv := 0 } :: ts) := by
  obtain ⟨q, cap, sv, olds, hs, h'⟩ := fl_open h
  have c5 := fchip_cell h' 5 (.int .i64 s.wk) rfl
  have c6 := fchip_cell h' 6 (.int .i64 s.wf) rfl
  have c7 := fchip_cell h' 7 (.int .i64 s.wm) rfl
  have c8 := fchip_cell h' 8 (.int .u8 s.wv) rfl
  have c9 := fchip_cell h' 9 (.int .i64 s.left) rfl
  have f9 := fchip_frozen h' 9
  obtain ⟨hd0, hd1⟩ := fchip_len h'
  rw [hl] at c9
  obtain ⟨hgl, hql⟩ := fchip_lt h'
  have hst := (fchip_store h' 9 (.int .i64 0) { s with left := 0 } sv (by simp [cellsOf]) rfl).alloc (.cells #[.int .i64 s.wk, .int .i64 s.wf, .int .i64 s.wm, .int .u8 s.wv] 53)
  have hB : ((w.setCell ⟨g, 9, none⟩ (.int .i64 0)).alloc (.cells #[.int .i64 s.wk, .int .i64 s.wf, .int .i64 s.wm, .int .u8 s.wv] 53)).heap[w.heap.size]? = some (.cells #[.int .i64 s.wk, .int .i64 s.wf, .int .i64 s.wm, .int .u8 s.wv] 53 (0, 0)) := by
    have := heap_alloc_new (w.setCell ⟨g, 9, none⟩ (.int .i64 0)) (.cells #[.int .i64 s.wk, .int .i64 s.wf, .int .i64 s.wm, .int .u8 s.wv] 53)
    simpa [World.setCell] using this
  have HST := Aside0.mk hst
  have HB := Lib.hid hB
  have HS := Aside0.mk hs
  have hqB : q ≠ w.heap.size := by omega
  clear hst hB h h' hs
  have HG := Aside0.mk hg
  clear hg
  go_enter Try.func24, Try.ntmps24
  go_wp2
  have hf0 := HG.out.f0
  have hm0 := HG.out.m0
  have hfm := HG.out.fm
  clear c5 c6 c7 c8 c9 f9 hl hgl hql HG
  go_loopw [3] (fun i wr => ∃ k : Nat, k ≤ s.wm.toNat ∧ i = .int .i64 (s.wf + k) ∧ Aside0 (Held w0 wr (fchip g q cap { s with left := 0, data := wrote s k } sv olds :: ts)) ∧ Hid (wr.heap[w.heap.size]? = some (.cells #[.int .i64 s.wk, .int .i64 s.wf, .int .i64 s.wm, .int .u8 s.wv] 53 (0, 0)))) (fun i _ => s.wm.toNat - (intOf i - s.wf).toNat)
  case atStart => exact ⟨0, Nat.zero_le _, by simp, HST, HB⟩
  case round =>
    obtain ⟨k, hk, rfl, hH, hBr⟩ := hrel
    clear HST HB
    have b0 := cell_of_block hBr.out 0 (.int .i64 s.wk) rfl
    have b1 := cell_of_block hBr.out 1 (.int .i64 s.wf) rfl
    have b2 := cell_of_block hBr.out 2 (.int .i64 s.wm) rfl
    have b3 := cell_of_block hBr.out 3 (.int .u8 s.wv) rfl
    by_cases hlt : k < s.wm.toNat
    · have c1 := fchip_cell hH.out 1 (.slice (some ⟨q, 0, none⟩) (wrote s k).length cap) rfl
      obtain ⟨_, hr⟩ := fchip_row hH.out
      have hx0 : 0 ≤ s.wf + (k : Int) := by omega
      have hx1 : s.wf + (k : Int) < (s.data.length : Int) := by omega
      have hx2 : s.wf + (k : Int) < s.wf + s.wm := by omega
      obtain ⟨hcell, hfro⟩ := Kd.R_cell (0 : Int) hr (s.wf + (k : Int)) hx0 (by show s.wf + (k : Int) < ((wrote s k).length : Int); rw [wrote_len]; exact hx1)
      change wr.cell? ⟨q, (s.wf + (k : Int)).toNat, none⟩ = some (.int .u8 (rd (wrote s k) (s.wf + (k : Int)))) at hcell
      have HW : Aside0 (Held w0 (wr.setCell ⟨q, (s.wf + (k : Int)).toNat, none⟩ (.int .u8 (wroteV s (rd (wrote s k) (s.wf + (k : Int)))))) (fchip g q cap { s with left := 0, data := wrote s (k + 1) } sv olds :: ts)) := ⟨fchip_put hH.out (s.wf + (k : Int)) (wroteV s (rd (wrote s k) (s.wf + (k : Int))))⟩
      have HBK := Lib.hid (box_kept hBr.out hqB (s.wf + (k : Int)).toNat (.int .u8 (wroteV s (rd (wrote s k) (s.wf + (k : Int))))))
      rw [wrote_len] at c1
      clear hr
      generalize rd (wrote s k) (s.wf + (k : Int)) = y at *
      unfold wroteV at HW HBK
      by_cases hwk : s.wk = 1
      · rw [if_pos hwk] at HW HBK
        have hwb : (s.wk == 1) = true := beq_iff_eq.2 hwk
        clear hwk
        go_wp2
        go_still_tail 11, (by kernel_rfl)
        repeat still_step
        try (refine wpStill_nil ?_)
        go_wp2
        go_roundw
        case rel => exact ⟨k + 1, by omega, by go_num, ⟨HW.out.drew⟩, Lib.hid HBK.out⟩
        case measure => simp [intOf]; omega
      · rw [if_neg hwk] at HW HBK
        have hwb : (s.wk == 1) = false := beq_eq_false_iff_ne.2 hwk
        clear hwk
        go_wp2
        go_roundw
        case rel => exact ⟨k + 1, by omega, by go_num, HW, HBK⟩
        case measure => simp [intOf]; omega
    · obtain rfl : k = s.wm.toNat := by omega
      have hx2 : ¬ s.wf + ((s.wm.toNat : Nat) : Int) < s.wf + s.wm := by omega
      have c5 := fchip_cell hH.out 5 (.int .i64 s.wk) rfl
      have c6 := fchip_cell hH.out 6 (.int .i64 s.wf) rfl
      have c7 := fchip_cell hH.out 7 (.int .i64 s.wm) rfl
      have c8 := fchip_cell hH.out 8 (.int .u8 s.wv) rfl
      have f5 := fchip_frozen hH.out 5
      have f6 := fchip_frozen hH.out 6
      have f7 := fchip_frozen hH.out 7
      have f8 := fchip_frozen hH.out 8
      have HE : Aside0 (Held w0 ((((wr.setCell ⟨g, 5, none⟩ (.int .i64 0)).setCell ⟨g, 6, none⟩ (.int .i64 0)).setCell ⟨g, 7, none⟩ (.int .i64 0)).setCell ⟨g, 8, none⟩ (.int .u8 0)) (fl g { s with left := 0, data := wrote s s.wm.toNat, wk := 0, wf := 0, wm := 0, wv := 0 } :: ts)) :=
        ⟨fl_close ⟨q, cap, sv, olds, HS.out, fchip_clear hH.out⟩⟩
      go_wp2
      go_end0
      exact ⟨rfl, HE.out⟩
theorem tick_walk (h : Held w0 w (fl g s :: ts)) (hg : Good s) : Calls Try.prog 24 #[ptr g] w fun e w' => e = .returned (.tuple #[]) ∧ Held w0 w' (fl g (tickS s) :: ts) := by
  have h0 := hg.l0
  unfold tickS
  by_cases h1 : s.left = 0
  · rw [if_pos h1]; exact tick_idle h h1
  · rw [if_neg h1]
    by_cases h2 : 1 < s.left
    · rw [if_pos h2]; exact tick_more h h2 hg.l1
    · rw [if_neg h2]; exact tick_last h hg (by omega)
end
end Go.Proofs.Ytpkgpcolngoicaa.Given
