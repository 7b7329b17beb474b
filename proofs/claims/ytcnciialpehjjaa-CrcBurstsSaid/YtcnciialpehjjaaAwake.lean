/- The chapter's example answers true: its walk, by the contracts of the sums. -/
import Derived.Test.YtcnciialpehjjaaAx1
import Derived.Lib.SlBytesConst
import Derived.Deep.RegionHeld3
set_option linter.unusedVariables false
set_option linter.unusedSimpArgs false
namespace Go.Proofs.Ytcnciialpehjjaa.Given
open Go.RowKit Go.Proofs.YtcnciialpehjjaaW.PrintWords Go.Proofs.Ytcnciialpehjjaa.All

/-- The nine bytes '1' to '9' lie in block h. -/
def Nine (h : Nat) (W : World) : Prop := h < W.heap.size ∧ ∀ j, j < 9 → W.cell? ⟨h, j, none⟩ = some (.int .u8 (49 + j))
theorem Nine.below {h : Nat} {W W1 : World} (hn : Nine h W) (hb : Below W.heap.size W W1) : Nine h W1 :=
  ⟨Nat.lt_of_lt_of_le hn.1 hb.size, fun j hj => (hb.cell (p := ⟨h, j, none⟩) hn.1).trans (hn.2 j hj)⟩
theorem Nine.drew {h : Nat} {W : World} (hn : Nine h W) : Nine h W.drew := hn
theorem Nine.reads {h : Nat} {W : World} (hn : Nine h W) (o n : Nat) (xs : List Int) (hl : xs.length = n) (hx : ∀ j, j < n → xs.getD j 0 = 49 + (o + j : Nat)) (ho : o + n ≤ 9) :
    Kd.C (Kd.int .u8) W (some ⟨h, o, none⟩) xs.length xs := by
  refine Kd.C_of_reads (d := (0 : Int)) (h1 := fun _ => rfl) ⟨rfl, by omega, fun _ => ⟨_, rfl, fun j hj => ?_⟩⟩
  have e : (⟨h, o, none⟩ : Addr).add j = ⟨h, o + j, none⟩ := by unfold Addr.add; split <;> simp_all
  rw [e, hn.2 _ (by omega)]
  simp only [List.getD_eq_getElem?_getD] at hx ⊢
  rw [hx j (by omega)]
structure Std (w W : World) : Prop where
  nine : Nine w.heap.size W
  bel : Below w.heap.size w W
theorem Std.drew {w W : World} (h : Std w W) : Std w W.drew := ⟨h.nine.drew, h.bel.drew⟩
theorem Std.below {w W W1 : World} (h : Std w W) (hb : Below W.heap.size W W1) : Std w W1 := ⟨h.nine.below hb, h.bel.trans (hb.mono h.bel.size)⟩
theorem sum9 (w W : World) (hs : Std w W) : Calls Try.prog 11 #[.slice (some ⟨w.heap.size, 0, none⟩) 9 9] W fun e w' => e = .returned (.int .u32 3421780262) ∧ Std w w' :=
  (crc_Sum.calls 200 (some ⟨w.heap.size, 0, none⟩) 9 [49, 50, 51, 52, 53, 54, 55, 56, 57] 3421780262 W (hs.nine.reads 0 9 _ rfl (by decide) (by decide)) (by decide) (by decide +kernel)).mono fun e w' ⟨he, hd⟩ => ⟨he, hs.below hd.below⟩

theorem sum4 (w W : World) (hs : Std w W) : Calls Try.prog 11 #[.slice (some ⟨w.heap.size, 0, none⟩) 4 9] W fun e w' => e = .returned (.int .u32 2615402659) ∧ Std w w' :=
  (crc_Sum.calls 200 (some ⟨w.heap.size, 0, none⟩) 9 [49, 50, 51, 52] 2615402659 W (hs.nine.reads 0 4 _ rfl (by decide) (by decide)) (by decide) (by decide +kernel)).mono fun e w' ⟨he, hd⟩ => ⟨he, hs.below hd.below⟩
theorem sum5 (w W : World) (hs : Std w W) : Calls Try.prog 11 #[.slice (some ⟨w.heap.size, 4, none⟩) 5 5] W fun e w' => e = .returned (.int .u32 320708720) ∧ Std w w' :=
  (crc_Sum.calls 200 (some ⟨w.heap.size, 4, none⟩) 5 [53, 54, 55, 56, 57] 320708720 W (hs.nine.reads 4 5 _ rfl (by decide) (by decide)) (by decide) (by decide +kernel)).mono fun e w' ⟨he, hd⟩ => ⟨he, hs.below hd.below⟩
theorem more5 (w W : World) (hs : Std w W) : Calls Try.prog 13 #[.int .u32 2615402659, .slice (some ⟨w.heap.size, 4, none⟩) 5 5] W fun e w' => e = .returned (.int .u32 3421780262) ∧ Std w w' :=
  (crc_More.calls 200 2615402659 (some ⟨w.heap.size, 4, none⟩) 5 [53, 54, 55, 56, 57] 3421780262 W (hs.nine.reads 4 5 _ rfl (by decide) (by decide)) (by decide) (by decide +kernel)).mono fun e w' ⟨he, hd⟩ => ⟨he, hs.below hd.below⟩
theorem join5 (w W : World) (hs : Std w W) : Calls Try.prog 14 #[.int .u32 2615402659, .int .u32 320708720, .int .i64 5] W fun e w' => e = .returned (.int .u32 3421780262) ∧ Std w w' :=
  (crc_Join.calls 2615402659 320708720 5 3421780262 W (by decide +kernel)).mono fun e w' ⟨he, hd⟩ => ⟨he, hs.below hd⟩
theorem nine_new (w : World) : Nine w.heap.size (w.alloc (.cells #[.int .u8 49, .int .u8 50, .int .u8 51, .int .u8 52, .int .u8 53, .int .u8 54, .int .u8 55, .int .u8 56, .int .u8 57] 5 (9, 10))) := by
  refine ⟨by simp, fun j hj => ?_⟩
  rw [cell_of_row _ w.heap.size j _ 5 (9, 10) (heap_alloc_new w _)]
  match j, hj with
  | 0, _ | 1, _ | 2, _ | 3, _ | 4, _ | 5, _ | 6, _ | 7, _ | 8, _ => rfl
def keepsakelaw01_awake.f : Option Bool := some true
set_option maxHeartbeats 4000000 in
theorem awake_walk (w : World) : Calls Try.prog 10 #[] w fun e w' => e = .returned (.bool true) ∧ Below w.heap.size w w' := by
  have kc := fun (w : World) (C : Array Value) (n c : Nat) => Lib.run_convert_bytes_const (P := Try.prog) w 22 5 C n c Try.underlying22 Try.underlying5
  have hN := nine_new w
  have hB : Below w.heap.size w (w.alloc (.cells #[.int .u8 49, .int .u8 50, .int .u8 51, .int .u8 52, .int .u8 53, .int .u8 54, .int .u8 55, .int .u8 56, .int .u8 57] 5 (9, 10))) := (Below.refl _ _).alloc (Nat.le_refl _) _
  have hS := Std.mk hN hB
  clear hN hB
  go_enter Try.func10, Try.ntmps10
  go_wp2_with fail
  generalize (w.alloc (.cells #[.int .u8 49, .int .u8 50, .int .u8 51, .int .u8 52, .int .u8 53, .int .u8 54, .int .u8 55, .int .u8 56, .int .u8 57] 5 (9, 10))) = w1 at hS ⊢
  go_region_held3 (fun W => Std w W) (first | exact Std.drew (by assumption) | exact Std.below (by assumption) (by assumption) | assumption) (first | (go_at_call 11; (first | (with_reducible refine (sum9 w _ (by assumption)).mono ?_) | (with_reducible refine (sum4 w _ (by assumption)).mono ?_) | (with_reducible refine (sum5 w _ (by assumption)).mono ?_)); rintro e w' ⟨rfl, hs'⟩) | (go_at_call 13; (with_reducible refine (more5 w _ (by assumption)).mono ?_); rintro e w' ⟨rfl, hs'⟩) | (go_at_call 14; (with_reducible refine (join5 w _ (by assumption)).mono ?_); rintro e w' ⟨rfl, hs'⟩))
  rename_i hLast
  go_wp2_with fail
  go_ret
  exact ⟨rfl, hLast.bel⟩
theorem keepsakelaw01_awake.calls (r : Bool) (w : World) (h : keepsakelaw01_awake.f = some r) : Calls Try.prog 10 #[] w fun e w' => e = .returned (.bool r) ∧ Below w.heap.size w w' := by
  unfold keepsakelaw01_awake.f at h
  injection h with h
  subst h
  exact awake_walk w

end Go.Proofs.Ytcnciialpehjjaa.Given
