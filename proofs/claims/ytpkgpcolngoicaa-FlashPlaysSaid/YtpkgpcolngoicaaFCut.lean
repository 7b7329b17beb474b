/- What a flash chip has when power fails. -/
import Derived.Test.YtpkgpcolngoicaaAx3
import Derived.Test.YtpkgpcolngoicaaFCutP
set_option linter.unusedVariables false
set_option linter.unusedSimpArgs false
namespace Go.Proofs.Ytpkgpcolngoicaa.Given
open Go.RowKit Go.Proofs.Ytpkgpcolngoicaa.All Go.Proofs.Ytpkgpcolngoicaa.Sep Go.Proofs.YtpkgpcolngoicaaW.PrintWords Go.Proofs.YtpkgpcolngoicaaW.PrintLast Go.Proofs.YtpkgpcolngoicaaW.PrintMore
attribute [local go_sem] max2_int min2_int max_two min_two

def cutS (s : FS) (pick : List Int) : List Int :=
  if s.wk = 1 then (if 0 < (pick.length : Int) then Cut.prog s.data s.wf (rd pick 0) else s.data) else cells s.data (rowAt s.wf s.wm.toNat) pick
section
variable {w0 w : World} {ts : List Thing} {g : Nat} {s : FS}
set_option maxHeartbeats 1600000 in
theorem cut_walk (h : Held w0 w (fl g s :: ts)) (A : Option Addr) (c : Nat) (pick : List Int) (hp : (Kd.int .u8).C w A pick.length pick) (hc : pick.length ≤ c) (hm : s.wm ≤ 100000) :
    Calls Try.prog 32 #[ptr g, .slice A pick.length c] w (Made w0 (cutS s pick) (fl g s :: ts)) := by
  obtain ⟨q, cap, sv, olds, hs, h'⟩ := fl_open h
  have c1 := fchip_cell h' 1 (.slice (some ⟨q, 0, none⟩) s.data.length cap) rfl
  have c5 := fchip_cell h' 5 (.int .i64 s.wk) rfl
  have c6 := fchip_cell h' 6 (.int .i64 s.wf) rfl
  have c7 := fchip_cell h' 7 (.int .i64 s.wm) rfl
  have c8 := fchip_cell h' 8 (.int .u8 s.wv) rfl
  obtain ⟨hl0, hl1⟩ := fchip_len h'
  obtain ⟨hgl, hql⟩ := fchip_lt h'
  obtain ⟨hcap, hr⟩ := fchip_row h'
  have HR := Aside0.mk (Kd.R_reads' hr).2.2
  have HP := Aside0.mk hp
  have HH := Aside0.mk h
  obtain ⟨k, hk⟩ : ∃ k, s.wk = k := ⟨_, rfl⟩
  obtain ⟨f, hf⟩ : ∃ f, s.wf = f := ⟨_, rfl⟩
  obtain ⟨m, hmm⟩ : ∃ m, s.wm = m := ⟨_, rfl⟩
  obtain ⟨v, hv⟩ : ∃ v, s.wv = v := ⟨_, rfl⟩
  have hBel : ∀ o, Below w.heap.size w (w.alloc o) := fun o => (Below.refl _ _).alloc (Nat.le_refl _) _
  have HBA := Lib.hid hBel
  rw [hk] at c5
  rw [hf] at c6
  rw [hmm] at c7 hm
  rw [hv] at c8
  unfold cutS
  rw [hk, hf, hmm]
  have HS := Aside0.mk hs
  generalize hd : s.data = xs at *
  have hB : (w.alloc (.cells #[.int .i64 k, .int .i64 f, .int .i64 m, .int .u8 v] 53)).heap[w.heap.size]? = some (.cells #[.int .i64 k, .int .i64 f, .int .i64 m, .int .u8 v] 53 (0, 0)) := heap_alloc_new w _
  have b1 := cell_of_block hB 1 (.int .i64 f) rfl
  have b2 := cell_of_block hB 2 (.int .i64 m) rfl
  have c1a := ((hBel (.cells #[.int .i64 k, .int .i64 f, .int .i64 m, .int .u8 v] 53)).cell (p := ⟨g, 1, none⟩) hgl).trans c1
  have HD := Aside0.mk hd
  clear hB h h' hr hp hs hd hk hf hmm hv
  by_cases hk : k = 1
  · rw [if_pos hk]
    subst hk
    by_cases hpk : 0 < (pick.length : Int)
    · rw [if_pos hpk]
      obtain ⟨ad, rfl, hcp⟩ := (Kd.reads_of_C (enc := Value.int .u8) (d := (0 : Int)) (h1 := fun _ => rfl) HP.out).2.2 (by omega)
      have hcp0 := hcp 0 (by omega)
      have ha0 : ad.add 0 = ad := by simp [Addr.add]
      rw [ha0] at hcp0
      have hadl := World.block_lt_of_cell? _ _ hcp0
      have hx : pick.getD 0 0 = rd pick 0 := rfl
      rw [hx] at hcp0
      have HF := Lib.hid (Cut.prog_f xs f (rd pick 0) (by omega) 0)
      generalize rd pick 0 = x at *
      have hcp1 := ((hBel (.cells #[.int .i64 1, .int .i64 f, .int .i64 m, .int .u8 v] 53)).cell (p := ad) hadl).trans hcp0
      clear hcp ha0 hx hBel
      go_enter Try.func32, Try.ntmps32
      go_wp2
      have HOA := Aside0.mk (HH.out.alloc (.cells #[.int .i64 1, .int .i64 f, .int .i64 m, .int .u8 v] 53))
      have HBB := Aside0.mk (HBA.out (.cells #[.int .i64 1, .int .i64 f, .int .i64 m, .int .u8 v] 53))
      generalize w.alloc (.cells #[.int .i64 1, .int .i64 f, .int .i64 m, .int .u8 v] 53) = W at *
      go_still_tail 9, (by kernel_rfl)
      go_wp2_with (go_at_call 45; (with_reducible refine (cut_Program.calls _ _ _ xs _ _ _ _ (Kd.C_below HR.out HBB.out.drew) hcap HF.out).mono ?_); rintro e w1 ⟨v1, rfl, hR, hb⟩; have HO := Aside0.mk (HOA.out.drew.row_new hR hb); clear hR hb)
      go_ret
      exact ⟨v1, rfl, HO.out⟩
    · rw [if_neg hpk]
      clear hBel
      have HCl : Aside0 (slices_Clone_byte_byte.f xs = some xs) := ⟨by unfold slices_Clone_byte_byte.f; rw [if_pos (by omega)]⟩
      go_enter Try.func32, Try.ntmps32
      go_wp2_with (go_at_call 13; (with_reducible refine (bytes_is (HH.out.alloc _) HD.out).mono ?_); rintro e w1 ⟨v1, rfl, h1⟩; have HO := Aside0.mk h1; clear h1)
      go_ret
      exact ⟨v1, rfl, HO.out⟩
  · rw [if_neg hk]
    have hkb : (k == 1) = false := beq_eq_false_iff_ne.2 hk
    have HF := Lib.hid (Cut.Range_f xs f m pick (by omega) (by omega))
    clear hk hBel
    go_enter Try.func32, Try.ntmps32
    go_wp2
    have HOA := Aside0.mk (HH.out.alloc (.cells #[.int .i64 k, .int .i64 f, .int .i64 m, .int .u8 v] 53))
    have HBB := Aside0.mk (HBA.out (.cells #[.int .i64 k, .int .i64 f, .int .i64 m, .int .u8 v] 53))
    generalize w.alloc (.cells #[.int .i64 k, .int .i64 f, .int .i64 m, .int .u8 v] 53) = W at *
    go_still_tail 9, (by kernel_rfl)
    go_wp2_with (go_at_call 46; (with_reducible refine (cut_Range.calls _ _ xs _ _ _ _ _ _ _ (Kd.C_below HR.out HBB.out.drew) hcap (Kd.C_below HP.out HBB.out.drew) hc HF.out).mono ?_); rintro e w1 ⟨v1, rfl, hR, hb⟩; have HO := Aside0.mk (HOA.out.drew.row_new hR hb); clear hR hb)
    go_ret
    exact ⟨v1, rfl, HO.out⟩
end
end Go.Proofs.Ytpkgpcolngoicaa.Given
