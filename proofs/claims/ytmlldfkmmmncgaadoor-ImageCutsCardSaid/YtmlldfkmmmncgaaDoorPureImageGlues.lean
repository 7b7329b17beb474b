/- What is cut is glued, whatever the pieces' size: for every list, and size. -/
import Derived.Test.YtmlldfkmmmncgaaDoorAx13
import Derived.Test.YtmlldfkmmmncgaaDoorPureImageFactory
import Derived.Test.YtmlldfkmmmncgaaDoorPureImageNeeds
set_option linter.unusedVariables false
set_option linter.unusedSimpArgs false
namespace Go.Proofs.YtmlldfkmmmncgaaDoor.Pure
open Go.RowKit Go.Proofs.YtmlldfkmmmncgaaDoor.All Go.Proofs.YtmlldfkmmmncgaaDoor.Given Go.Proofs.YtmlldfkmmmncgaaDoorW.PrintWords Go.Proofs.YtmlldfkmmmncgaaDoorW.PrintLast

theorem pieces_flat (xs : List Int) (s n : Nat) : (((List.range n).map fun i => (xs.drop (i * s)).take s) : List (List Int)).flatten = xs.take (n * s) := by
  induction n with
  | zero => simp
  | succ n ih =>
    rw [List.range_succ, List.map_append, List.flatten_append, ih, Nat.add_mul, Nat.one_mul, List.take_add]
    simp
theorem pc_flat (l : List Int) (s : Nat) (hs : 0 < s) : (pc l s).flatten = full l s := by
  unfold pc
  rw [pieces_flat, List.take_of_length_le (by rw [full_len l s hs]; exact Nat.le_refl _)]
theorem full_take (l : List Int) (s : Nat) : (full l s).take l.length = l := by
  unfold full
  exact List.take_left' rfl
theorem pc_rd (l : List Int) (s i : Nat) (hs : 0 < s) (hi : i < many l.length s) : (rd_L1 (pc l s) (i : Int)).length = s := by
  unfold rd_L1
  rw [Int.toNat_natCast, List.getD_eq_getElem?_getD, pc_at l s i hi]
  exact piece_len l s i hs hi
theorem join_pc (l : List Int) (s : Nat) (hs : 0 < s) (hs2 : s ≤ 4096) (hl : l.length ≤ 300) : bytes_Join.f (pc l s) [] = some (full l s) := by
  have h1 := many_full l.length s hs
  have h2 := many_le l.length s hs
  unfold bytes_Join.f
  rw [if_pos ⟨rfl, by rw [pc_len]; omega, by rw [pc_flat l s hs, full_len l s hs]; omega⟩, pc_flat l s hs]
theorem glue_pc (l : List Int) (s : Nat) (hs : 0 < s) (hs2 : s ≤ 4096) (hl : l.length ≤ 300) : image_Glue.f (pc l s) (l.length : Int) = some (l, 0) := by
  have h1 := many_full l.length s hs
  unfold image_Glue.f
  rw [join_pc l s hs hs2 hl, Option.bind_some, if_pos ⟨by omega, by rw [full_len l s hs]; omega⟩, Int.toNat_natCast, full_take]
theorem glue_more (l : List Int) (s : Nat) (m : Int) (hs : 0 < s) (hs2 : s ≤ 4096) (hl : l.length ≤ 300) (hm : ((many l.length s * s : Nat) : Int) < m) : image_Glue.f (pc l s) m = some ([], 1) := by
  unfold image_Glue.f
  rw [join_pc l s hs hs2 hl, Option.bind_some, if_neg (by rw [full_len l s hs]; omega)]
theorem cut_f (l : List Int) (s : Nat) (hs : 1 ≤ s) (hs2 : s ≤ 4096) (hl : l.length ≤ 300) : image_Cut.f l (s : Int) = some (pc l s, 0) := by
  unfold image_Cut.f
  rw [if_neg (by omega), if_pos (by omega), Int.toNat_natCast]
theorem glues_l0 (l : List Int) (s : Nat) (hs : 1 ≤ s) (hs2 : s ≤ 100) (hl : l.length ≤ 300) (d : Nat) : ∀ (k i : Nat), i + d = many l.length s → d + 400 ≤ k → keepsakelaw05_ImageGlues.l0 k l true (s : Int) (pc l s) (i : Int) = some true := by
  have h1 := many_full l.length s hs
  have h2 := many_le l.length s hs
  induction d with
  | zero =>
    intro k i hi hk
    obtain ⟨k, rfl⟩ : ∃ j, k = j + 1 := ⟨k - 1, by omega⟩
    have e1 : (s : Int) * ((pc l s).length : Int) = ((many l.length s * s : Nat) : Int) := by rw [pc_len, ← Int.natCast_mul, Nat.mul_comm]
    rw [keepsakelaw05_ImageGlues.l0, if_neg (by rw [pc_len]; omega), e1, glue_pc l s hs (by omega) hl, w64 ((many l.length s * s : Nat) : Int) (by omega) (by omega), w64 _ (by omega) (by omega), w64 _ (by omega) (by omega), glue_more l s _ hs (by omega) hl (by omega)]
    simp only [Option.bind_some, if_true]
    rw [same_self l (by omega) k (by omega)]
    simp only [Option.bind_some, if_true]
    rw [if_pos (by omega), decide_eq_true (by omega)]
  | succ d ih =>
    intro k i hi hk
    obtain ⟨k, rfl⟩ : ∃ j, k = j + 1 := ⟨k - 1, by omega⟩
    rw [keepsakelaw05_ImageGlues.l0, if_pos (by rw [pc_len]; omega), if_pos (by omega), if_pos (by rw [pc_rd l s i hs (by omega)]), w64 _ (by omega) (by omega), show (i : Int) + 1 = ((i + 1 : Nat) : Int) by omega]
    exact ih k (i + 1) (by omega) (by omega)
theorem u8_bd {a : Int} (h : (Lit.int .u8 a).wf = true) : 0 ≤ a ∧ a ≤ 255 := by
  simp [Lit.wf, IntKind.min, IntKind.max, IntKind.signed, IntKind.bits] at h
  omega
theorem size8_of (a2 : Int) (h : 0 ≤ a2 ∧ a2 ≤ 255) : ∃ s : Nat, wrap64 (1 + wrap64 (Int.tmod a2 100)) = (s : Int) ∧ 1 ≤ s ∧ s ≤ 100 := by
  have e : Int.tmod a2 100 = a2 % 100 := Int.tmod_eq_emod_of_nonneg h.1
  rw [e, w64 (a2 % 100) (by omega) (by omega), w64 _ (by omega) (by omega)]
  exact ⟨(1 + a2 % 100).toNat, by omega, by omega, by omega⟩
theorem ImageGlues : keepsakelaw05_ImageGlues.Pure := by
  intro l a _ _ _ ha
  obtain ⟨s, hs, hs1, hs2⟩ := size8_of a (u8_bd ha)
  refine ⟨2001, ?_⟩
  unfold keepsakelaw05_ImageGlues.f
  rw [awake_f _ (by omega), Option.bind_some]
  by_cases hl : (l.length : Int) > 300
  · rw [if_pos hl]
  · have h2 := many_le l.length s hs1
    rw [if_neg hl, hs, cut_f l s hs1 (by omega) (by omega), Option.bind_some]
    simp only [if_true]
    rw [sect_f l.length s hs1 (by omega) (by omega), Option.bind_some]
    have e : (((pc l s).length : Int) != (many l.length s : Int)) = false := by rw [pc_len]; simp
    rw [e, keepsakelaw05_ImageGlues.j0, if_neg (by decide)]
    exact glues_l0 l s hs1 hs2 (by omega) (many l.length s) 2000 0 (by omega) (by omega)
end Go.Proofs.YtmlldfkmmmncgaaDoor.Pure
