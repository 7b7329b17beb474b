/- The check sum of a head and a ROM, as four bytes: its walk. -/
import Derived.Test.YtoiiphlhdnlniaaAx2
import Derived.Test.YtoiiphlhdnlniaaSums
import Derived.WalkKit
import Derived.WalkSpells
import Derived.RowKit3
import Derived.RangeFuncBox
import Derived.Laws.EntriesVeiled
import Derived.Lib.Hide
import Derived.DeepKeys
set_option linter.unusedVariables false
set_option linter.unusedSimpArgs false
namespace Go.Proofs.Ytoiiphlhdnlniaa.Given
open Go.RowKit Go.Proofs.Ytoiiphlhdnlniaa.All Go.Proofs.Ytoiiphlhdnlniaa.Sums Go.Proofs.Ytoiiphlhdnlniaa.Math Go.Proofs.YtoiiphlhdnlniaaW.PrintWords Go.Proofs.YtoiiphlhdnlniaaW.PrintLast Go.Proofs.YtoiiphlhdnlniaaW.PrintMore

theorem reads_blk {W : World} {b : Nat} {xs : List Int} {e : Nat} {fr : Nat × Nat} (h : W.heap[b]? = some (.cells (xs.map (Value.int .u8)).toArray e fr)) (hl : xs.length ≤ 1000000) : (Kd.int .u8).C W (some ⟨b, 0, none⟩) xs.length xs := by
  refine Kd.C_of_reads (d := (0 : Int)) (h1 := fun _ => rfl) ⟨rfl, by omega, fun _ => ⟨_, rfl, fun j hj => ?_⟩⟩
  have e : (⟨b, 0, none⟩ : Addr).add j = ⟨b, j, none⟩ := by unfold Addr.add; split <;> simp_all
  rw [e, cell_of_row W b j _ _ _ h, List.getElem?_toArray, List.getElem?_map, List.getElem?_eq_getElem hj, List.getD_eq_getElem?_getD, List.getElem?_eq_getElem hj]
  rfl
def by_ (s : Int) : Nat → Int
  | 0 => s % 256
  | 1 => s / 256 % 256
  | 2 => s / 65536 % 256
  | _ => s / 16777216 % 256
/-- The four bytes, as far as they are laid. -/
def outs (s : Int) : Nat → Array Value
  | 0 => #[.int .u8 0, .int .u8 0, .int .u8 0, .int .u8 0]
  | 1 => #[.int .u8 (s % 256), .int .u8 0, .int .u8 0, .int .u8 0]
  | 2 => #[.int .u8 (s % 256), .int .u8 (s / 256 % 256), .int .u8 0, .int .u8 0]
  | 3 => #[.int .u8 (s % 256), .int .u8 (s / 256 % 256), .int .u8 (s / 65536 % 256), .int .u8 0]
  | _ => #[.int .u8 (s % 256), .int .u8 (s / 256 % 256), .int .u8 (s / 65536 % 256), .int .u8 (s / 16777216 % 256)]
def sealOf (l : List Int) : Int := iv (crc l)
set_option maxHeartbeats 4000000 in
theorem seal_walk (h0 h1 h2 h3 h4 h5 h6 h7 h8 h9 h10 h11 : Int) (A : Option Addr) (c : Nat) (rom : List Int) (w : World) (hb : Bytes ([h0, h1, h2, h3, h4, h5, h6, h7, h8, h9, h10, h11] ++ rom)) (hl : rom.length ≤ 100000)
    (hr : (Kd.int .u8).C w A rom.length rom) (hc : rom.length ≤ c) :
    Calls Try.prog 22 #[.agg #[.int .u8 h0, .int .u8 h1, .int .u8 h2, .int .u8 h3, .int .u8 h4, .int .u8 h5, .int .u8 h6, .int .u8 h7, .int .u8 h8, .int .u8 h9, .int .u8 h10, .int .u8 h11], .slice A rom.length c] w
      fun e w' => e = .returned (.agg (outs (sealOf ([h0, h1, h2, h3, h4, h5, h6, h7, h8, h9, h10, h11] ++ rom)) 4)) ∧ Below w.heap.size w w' := by
  have hs0 : 0 ≤ sealOf ([h0, h1, h2, h3, h4, h5, h6, h7, h8, h9, h10, h11] ++ rom) := iv_lo _
  have hs1 : sealOf ([h0, h1, h2, h3, h4, h5, h6, h7, h8, h9, h10, h11] ++ rom) < 4294967296 := iv_hi _
  obtain ⟨s, hs⟩ : ∃ s, sealOf ([h0, h1, h2, h3, h4, h5, h6, h7, h8, h9, h10, h11] ++ rom) = s := ⟨_, rfl⟩
  rw [hs] at hs0 hs1 ⊢
  have HSV := Lib.hid hs
  have HR := Aside0.mk hr
  have HBY := Lib.hid hb
  clear hr hb hs
  go_enter Try.func22, Try.ntmps22
  go_wp2_with fail
  have hbh : Bytes [h0, h1, h2, h3, h4, h5, h6, h7, h8, h9, h10, h11] := fun x hx => HBY.out x (List.mem_append.2 (.inl hx))
  have hbr : Bytes rom := fun x hx => HBY.out x (List.mem_append.2 (.inr hx))
  have hS := sum_f [h0, h1, h2, h3, h4, h5, h6, h7, h8, h9, h10, h11] hbh (by simp) 1000001 (by simp)
  have hM := more_f (crc [h0, h1, h2, h3, h4, h5, h6, h7, h8, h9, h10, h11]) rom hbr (by omega) 1000001 (by omega)
  have hE : iv (~~~ (fold (~~~ (crc [h0, h1, h2, h3, h4, h5, h6, h7, h8, h9, h10, h11])) rom)) = s := by
    rw [← HSV.out]
    unfold sealOf crc
    rw [fold_append, BitVec.not_not]
  rw [hE] at hM
  have HS := Lib.hid hS
  have HM := Lib.hid hM
  clear hbh hbr hS hM hE
  have hB0 := (((Below.refl w.heap.size w).alloc (Nat.le_refl _) (.cells #[.int .u8 h0, .int .u8 h1, .int .u8 h2, .int .u8 h3, .int .u8 h4, .int .u8 h5, .int .u8 h6, .int .u8 h7, .int .u8 h8, .int .u8 h9, .int .u8 h10, .int .u8 h11] 48)))
  have hb0 := heap_alloc_new w (.cells #[.int .u8 h0, .int .u8 h1, .int .u8 h2, .int .u8 h3, .int .u8 h4, .int .u8 h5, .int .u8 h6, .int .u8 h7, .int .u8 h8, .int .u8 h9, .int .u8 h10, .int .u8 h11] 48)
  have hb1 := (Below.heap_alloc _ (.cells #[.int .u8 0, .int .u8 0, .int .u8 0, .int .u8 0] 49) w.heap.size (by simp)).trans hb0
  have HC0 := Aside0.mk (reads_blk (xs := [h0, h1, h2, h3, h4, h5, h6, h7, h8, h9, h10, h11]) hb1 (by simp))
  have HB0 := Aside0.mk (hB0.alloc (by simp) (.cells #[.int .u8 0, .int .u8 0, .int .u8 0, .int .u8 0] 49))
  have HR0 := Aside0.mk (Kd.C_alloc (Kd.C_alloc HR.out (.cells #[.int .u8 h0, .int .u8 h1, .int .u8 h2, .int .u8 h3, .int .u8 h4, .int .u8 h5, .int .u8 h6, .int .u8 h7, .int .u8 h8, .int .u8 h9, .int .u8 h10, .int .u8 h11] 48)) (.cells #[.int .u8 0, .int .u8 0, .int .u8 0, .int .u8 0] 49))
  have hsz : ((w.alloc (.cells #[.int .u8 h0, .int .u8 h1, .int .u8 h2, .int .u8 h3, .int .u8 h4, .int .u8 h5, .int .u8 h6, .int .u8 h7, .int .u8 h8, .int .u8 h9, .int .u8 h10, .int .u8 h11] 48)).alloc (.cells #[.int .u8 0, .int .u8 0, .int .u8 0, .int .u8 0] 49)).heap.size = w.heap.size + 2 := by simp
  have hbox : ((w.alloc (.cells #[.int .u8 h0, .int .u8 h1, .int .u8 h2, .int .u8 h3, .int .u8 h4, .int .u8 h5, .int .u8 h6, .int .u8 h7, .int .u8 h8, .int .u8 h9, .int .u8 h10, .int .u8 h11] 48)).alloc (.cells #[.int .u8 0, .int .u8 0, .int .u8 0, .int .u8 0] 49)).heap[w.heap.size + 1]? = some (.cells #[.int .u8 0, .int .u8 0, .int .u8 0, .int .u8 0] 49 (0, 0)) := by
    have := heap_alloc_new (w.alloc (.cells #[.int .u8 h0, .int .u8 h1, .int .u8 h2, .int .u8 h3, .int .u8 h4, .int .u8 h5, .int .u8 h6, .int .u8 h7, .int .u8 h8, .int .u8 h9, .int .u8 h10, .int .u8 h11] 48)) (.cells #[.int .u8 0, .int .u8 0, .int .u8 0, .int .u8 0] 49)
    rwa [World.size_alloc] at this
  clear hB0 hb0 hb1 HR HBY
  generalize ((w.alloc (.cells #[.int .u8 h0, .int .u8 h1, .int .u8 h2, .int .u8 h3, .int .u8 h4, .int .u8 h5, .int .u8 h6, .int .u8 h7, .int .u8 h8, .int .u8 h9, .int .u8 h10, .int .u8 h11] 48)).alloc (.cells #[.int .u8 0, .int .u8 0, .int .u8 0, .int .u8 0] 49)) = W0 at *
  refine (crc_Sum.calls 1000001 (some ⟨w.heap.size, 0, none⟩) 12 [h0, h1, h2, h3, h4, h5, h6, h7, h8, h9, h10, h11] _ W0 HC0.out (by simp) HS.out).mono ?_
  rintro e W1 ⟨rfl, hd⟩
  have HB1 := Aside0.mk (HB0.out.trans (hd.below.mono HB0.out.size))
  have HR1 := Aside0.mk (Kd.C_below HR0.out hd.below)
  have hbox1 := (hd.below.block (w.heap.size + 1) (by omega)).trans hbox
  clear hd HB0 HR0 hbox HC0 HS hsz
  go_wp2_with fail
  refine (crc_More.calls 1000001 _ A c rom _ W1 HR1.out hc HM.out).mono ?_
  rintro e W2 ⟨rfl, hd⟩
  have HB2 := Aside0.mk (HB1.out.trans (hd.below.mono HB1.out.size))
  have hbox2 := (hd.below.block (w.heap.size + 1) (Array.getElem?_eq_some_iff.1 hbox1).1).trans hbox1
  have hlt2 := (Array.getElem?_eq_some_iff.1 hbox2).1
  have HBX := Aside0.mk hbox2
  clear hd HB1 HR1 hbox1 hbox2 HM
  go_wp2_with fail
  go_loopw [12] (fun i wr => ∃ k : Nat, k ≤ 4 ∧ i = .int .i64 k ∧ wr = W2.alloc (.cells (outs s k) 49)) (fun i _ => 4 - (intOf i).toNat)
  case atStart => exact ⟨0, by omega, rfl, rfl⟩
  case round =>
    obtain ⟨k, hk, rfl, rfl⟩ := hrel
    rcases (by omega : k = 0 ∨ k = 1 ∨ k = 2 ∨ k = 3 ∨ k = 4) with rfl | rfl | rfl | rfl | rfl
    · simp only [outs]
      go_wp2_with fail
      go_roundw
      case rel => exact ⟨1, by omega, by simp, by simp [outs]⟩
      case measure => simp [intOf]
    · simp only [outs]
      go_wp2_with fail
      go_roundw
      case rel => exact ⟨2, by omega, by simp, by simp [outs]⟩
      case measure => simp [intOf]
    · simp only [outs]
      go_wp2_with fail
      go_roundw
      case rel => exact ⟨3, by omega, by simp, by simp [outs]⟩
      case measure => simp [intOf]
    · simp only [outs]
      go_wp2_with fail
      go_roundw
      case rel => exact ⟨4, by omega, by simp, by simp only [outs]; rw [show s / 16777216 % 256 = s / 16777216 by omega]⟩
      case measure => simp [intOf]
    · simp only [outs]
      have q0 : W2.cell? ⟨w.heap.size + 1, 0, none⟩ = some (.int .u8 0) := (cell_of_row W2 _ 0 _ _ _ HBX.out).trans rfl
      have q1 : W2.cell? ⟨w.heap.size + 1, 1, none⟩ = some (.int .u8 0) := (cell_of_row W2 _ 1 _ _ _ HBX.out).trans rfl
      have q2 : W2.cell? ⟨w.heap.size + 1, 2, none⟩ = some (.int .u8 0) := (cell_of_row W2 _ 2 _ _ _ HBX.out).trans rfl
      have q3 : W2.cell? ⟨w.heap.size + 1, 3, none⟩ = some (.int .u8 0) := (cell_of_row W2 _ 3 _ _ _ HBX.out).trans rfl
      have f0 : ∀ j, W2.frozen? ⟨w.heap.size + 1, j, none⟩ = false := fun j => by simp [World.frozen?, HBX.out]
      go_wp2_with fail
      have hB3 := (((HB2.out.setCell (p := ⟨w.heap.size + 1, 0, none⟩) (by simp) (.int .u8 (s % 256))).setCell (p := ⟨w.heap.size + 1, 1, none⟩) (by simp) (.int .u8 (s / 256 % 256))).setCell (p := ⟨w.heap.size + 1, 2, none⟩) (by simp) (.int .u8 (s / 65536 % 256))).setCell (p := ⟨w.heap.size + 1, 3, none⟩) (by simp) (.int .u8 (s / 16777216 % 256))
      have k3 := blk_set (blk_set (blk_set (blk_set HBX.out 0 (.int .u8 (s % 256))) 1 (.int .u8 (s / 256 % 256))) 2 (.int .u8 (s / 65536 % 256))) 3 (.int .u8 (s / 16777216 % 256))
      generalize (((W2.setCell ⟨w.heap.size + 1, 0, none⟩ (.int .u8 (s % 256))).setCell ⟨w.heap.size + 1, 1, none⟩ (.int .u8 (s / 256 % 256))).setCell ⟨w.heap.size + 1, 2, none⟩ (.int .u8 (s / 65536 % 256))).setCell ⟨w.heap.size + 1, 3, none⟩ (.int .u8 (s / 16777216 % 256)) = W3 at hB3 k3 ⊢
      have r0 : W3.cell? ⟨w.heap.size + 1, 0, none⟩ = some (.int .u8 (s % 256)) := (cell_of_row W3 _ 0 _ _ _ k3).trans rfl
      have r1 : W3.cell? ⟨w.heap.size + 1, 1, none⟩ = some (.int .u8 (s / 256 % 256)) := (cell_of_row W3 _ 1 _ _ _ k3).trans rfl
      have r2 : W3.cell? ⟨w.heap.size + 1, 2, none⟩ = some (.int .u8 (s / 65536 % 256)) := (cell_of_row W3 _ 2 _ _ _ k3).trans rfl
      have r3 : W3.cell? ⟨w.heap.size + 1, 3, none⟩ = some (.int .u8 (s / 16777216 % 256)) := (cell_of_row W3 _ 3 _ _ _ k3).trans rfl
      have hlt3 := (Array.getElem?_eq_some_iff.1 k3).1
      have hlt4 : w.heap.size ≤ W3.heap.size := by omega
      refine bodyPost_ret (v := .agg #[.int .u8 (s % 256), .int .u8 (s / 256 % 256), .int .u8 (s / 65536 % 256), .int .u8 (s / 16777216 % 256)]) ?_ rfl ⟨rfl, hB3.alloc hlt4 _⟩
      simp [results, Try.results22, go_sem, hlt3, r0, r1, r2, r3]

theorem wf8 {a : Int} (h : 0 ≤ a ∧ a ≤ 255) : (Lit.int .u8 a).wf = true := by
  simp [Lit.wf, IntKind.min, IntKind.max, IntKind.signed, IntKind.bits]
  omega
theorem lits4 {a b c d : Int} (ha : 0 ≤ a ∧ a ≤ 255) (hb : 0 ≤ b ∧ b ≤ 255) (hc : 0 ≤ c ∧ c ≤ 255) (hd : 0 ≤ d ∧ d ≤ 255) :
    Try.prog.keyLits 5 49 [.int .u8 a, .int .u8 b, .int .u8 c, .int .u8 d] = some [.int .u8 a, .int .u8 b, .int .u8 c, .int .u8 d] := by
  have h49 := Try.underlying49
  have h5 := Try.underlying5
  have c49 : Try.prog.cellsOf 49 = 4 := by kernel_rfl
  have c5 : Try.prog.cellsOf 5 = 1 := by kernel_rfl
  simp [Program.keyLits, h49, h5, c49, c5, wf8 ha, wf8 hb, wf8 hc, wf8 hd, List.range, List.range.loop]
theorem eq4 {a b c d g0 g1 g2 g3 : Int} (ha : 0 ≤ a ∧ a ≤ 255) (hb : 0 ≤ b ∧ b ≤ 255) (hc : 0 ≤ c ∧ c ≤ 255) (hd : 0 ≤ d ∧ d ≤ 255) (h0 : 0 ≤ g0 ∧ g0 ≤ 255) (h1 : 0 ≤ g1 ∧ g1 ≤ 255) (h2 : 0 ≤ g2 ∧ g2 ≤ 255) (h3 : 0 ≤ g3 ∧ g3 ≤ 255) (W : World) :
    (Op.equalIn 10000 49 (.agg #[.int .u8 a, .int .u8 b, .int .u8 c, .int .u8 d]) (.agg #[.int .u8 g0, .int .u8 g1, .int .u8 g2, .int .u8 g3])).run Try.prog W = .ok (decide (a = g0 ∧ b = g1 ∧ c = g2 ∧ d = g3)) W := by
  have hk : Try.prog.keyTypeAt 3 49 = true := by kernel_rfl
  obtain ⟨r, h1, h2⟩ := run_equalIn_deep 9997 3 49 hk W 5 5 (.agg #[.int .u8 a, .int .u8 b, .int .u8 c, .int .u8 d]) (.agg #[.int .u8 g0, .int .u8 g1, .int .u8 g2, .int .u8 g3]) [.int .u8 a, .int .u8 b, .int .u8 c, .int .u8 d] [.int .u8 g0, .int .u8 g1, .int .u8 g2, .int .u8 g3] (by kernel_rfl) (by kernel_rfl) (lits4 ha hb hc hd) (lits4 h0 h1 h2 h3)
  have e : r = decide (a = g0 ∧ b = g1 ∧ c = g2 ∧ d = g3) := by
    rw [Bool.eq_iff_iff, h2]
    simp
  rw [← e]
  exact h1
theorem seal_call (h0 h1 h2 h3 h4 h5 h6 h7 h8 h9 h10 h11 : Int) (A : Option Addr) (c : Nat) (rom : List Int) (w : World) (s : Int) (hs : sealOf ([h0, h1, h2, h3, h4, h5, h6, h7, h8, h9, h10, h11] ++ rom) = s) (hb : Bytes ([h0, h1, h2, h3, h4, h5, h6, h7, h8, h9, h10, h11] ++ rom)) (hl : rom.length ≤ 100000)
    (hr : (Kd.int .u8).C w A rom.length rom) (hc : rom.length ≤ c) :
    Calls Try.prog 22 #[.agg #[.int .u8 h0, .int .u8 h1, .int .u8 h2, .int .u8 h3, .int .u8 h4, .int .u8 h5, .int .u8 h6, .int .u8 h7, .int .u8 h8, .int .u8 h9, .int .u8 h10, .int .u8 h11], .slice A rom.length c] w
      fun e w' => e = .returned (.agg #[.int .u8 (s % 256), .int .u8 (s / 256 % 256), .int .u8 (s / 65536 % 256), .int .u8 (s / 16777216 % 256)]) ∧ Below w.heap.size w w' := by
  have h := seal_walk h0 h1 h2 h3 h4 h5 h6 h7 h8 h9 h10 h11 A c rom w hb hl hr hc
  rw [hs] at h
  exact h
end Go.Proofs.Ytoiiphlhdnlniaa.Given
