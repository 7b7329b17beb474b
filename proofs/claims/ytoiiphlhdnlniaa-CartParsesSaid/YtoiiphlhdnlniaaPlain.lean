/- Whether a cartridge can be, and how long its ROM is, in plain terms. -/
import Derived.Test.YtoiiphlhdnlniaaAx2
import Derived.Test.YtoiiphlhdnlniaaAx3
set_option linter.unusedVariables false
set_option linter.unusedSimpArgs false
namespace Go.Proofs.Ytoiiphlhdnlniaa.Plain
open Go.RowKit Go.Proofs.Ytoiiphlhdnlniaa.All Go.Proofs.YtoiiphlhdnlniaaW.PrintWords Go.Proofs.YtoiiphlhdnlniaaW.PrintLast

theorem w64 (n : Int) (h0 : -9223372036854775808 ≤ n) (h1 : n ≤ 9223372036854775807) : wrap64 n = n := by unfold wrap64; omega
structure Ok (a0 a1 a2 a3 a4 : Int) : Prop where
  s0 : 8 ≤ a0
  s1 : a0 ≤ 14
  b0 : 1 ≤ a1
  b1 : a1 ≤ 64
  e0 : 0 ≤ a2
  e1 : a2 ≤ 10
  f0 : 0 ≤ a3
  f1 : a3 ≤ 64
  r0 : 0 ≤ a4
  r1 : a4 ≤ 128
def okB (a0 a1 a2 a3 a4 : Int) : Bool := decide (8 ≤ a0 ∧ a0 ≤ 14 ∧ 1 ≤ a1 ∧ a1 ≤ 64 ∧ 0 ≤ a2 ∧ a2 ≤ 10 ∧ 0 ≤ a3 ∧ a3 ≤ 64 ∧ 0 ≤ a4 ∧ a4 ≤ 128)
theorem okB_ok {a0 a1 a2 a3 a4 : Int} (h : okB a0 a1 a2 a3 a4 = true) : Ok a0 a1 a2 a3 a4 := by
  have h := of_decide_eq_true h
  obtain ⟨h0, h1, h2, h3, h4, h5, h6, h7, h8, h9⟩ := h
  exact ⟨h0, h1, h2, h3, h4, h5, h6, h7, h8, h9⟩
theorem ok_okB {a0 a1 a2 a3 a4 : Int} (h : Ok a0 a1 a2 a3 a4) : okB a0 a1 a2 a3 a4 = true :=
  decide_eq_true ⟨h.s0, h.s1, h.b0, h.b1, h.e0, h.e1, h.f0, h.f1, h.r0, h.r1⟩
theorem right_ref (a b c : Int) : keepsakeref03_Right.f a b c = some (decide (0 ≤ a ∧ a ≤ 10 ∧ 0 ≤ b ∧ b ≤ 64 ∧ 0 ≤ c ∧ c ≤ 128)) := by
  unfold keepsakeref03_Right.f
  by_cases h1 : a ≥ 0 <;> by_cases h2 : a ≤ 10 <;> by_cases h3 : b ≥ 0 <;> by_cases h4 : b ≤ 64 <;> by_cases h5 : c ≥ 0 <;> simp [h1, h2, h3, h4, h5] <;> omega
theorem right_geo (a b c : Int) : geo_Right.f a b c = some (decide (0 ≤ a ∧ a ≤ 10 ∧ 0 ≤ b ∧ b ≤ 64 ∧ 0 ≤ c ∧ c ≤ 128)) := by
  rw [← right_ref]
  unfold geo_Right.f keepsakeref03_Right.f geo_within.f
  by_cases h1 : a ≥ 0 <;> by_cases h2 : a ≤ 10 <;> by_cases h3 : b ≥ 0 <;> by_cases h4 : b ≤ 64 <;> by_cases h5 : c ≥ 0 <;> simp [h1, h2, h3, h4, h5]
theorem right_bank (a0 a1 a2 a3 a4 : Int) (l : List Int) : bank_Right.f a0 a1 a2 a3 a4 l = some (okB a0 a1 a2 a3 a4) := by
  unfold bank_Right.f okB
  rw [right_geo]
  by_cases h1 : a0 ≥ 8 <;> by_cases h2 : a0 ≤ 14 <;> by_cases h3 : a1 ≥ 1 <;> by_cases h4 : a1 ≤ 64 <;> simp [h1, h2, h3, h4] <;> omega
theorem right_doc (a0 a1 a2 a3 a4 : Int) (l : List Int) : keepsakeref20_Right.f a0 a1 a2 a3 a4 l = some (okB a0 a1 a2 a3 a4) := by
  unfold keepsakeref20_Right.f okB
  rw [right_ref]
  by_cases h1 : a0 ≥ 8 <;> by_cases h2 : a0 ≤ 14 <;> by_cases h3 : a1 ≥ 1 <;> by_cases h4 : a1 ≤ 64 <;> simp [h1, h2, h3, h4] <;> omega

/-- A bank's bytes. -/
def sz (a0 : Int) : Int := if a0 = 8 then 256 else if a0 = 9 then 512 else if a0 = 10 then 1024 else if a0 = 11 then 2048 else if a0 = 12 then 4096 else if a0 = 13 then 8192 else 16384
theorem seven {P : Int → Prop} {a0 : Int} (h0 : 8 ≤ a0) (h1 : a0 ≤ 14) (h : P 8 ∧ P 9 ∧ P 10 ∧ P 11 ∧ P 12 ∧ P 13 ∧ P 14) : P a0 := by
  obtain ⟨h8, h9, h10, h11, h12, h13, h14⟩ := h
  rcases (show a0 = 8 ∨ a0 = 9 ∨ a0 = 10 ∨ a0 = 11 ∨ a0 = 12 ∨ a0 = 13 ∨ a0 = 14 by omega) with h | h | h | h | h | h | h <;> (subst h; assumption)
theorem sz_cases (a0 : Int) : sz a0 = 256 ∨ sz a0 = 512 ∨ sz a0 = 1024 ∨ sz a0 = 2048 ∨ sz a0 = 4096 ∨ sz a0 = 8192 ∨ sz a0 = 16384 := by
  unfold sz
  repeat' split
  all_goals simp
theorem sz_lo (a0 : Int) : 256 ≤ sz a0 := by rcases sz_cases a0 with h | h | h | h | h | h | h <;> omega
theorem sz_hi (a0 : Int) : sz a0 ≤ 16384 := by rcases sz_cases a0 with h | h | h | h | h | h | h <;> omega
theorem shl_sz (b a0 : Int) (hb0 : 1 ≤ b) (hb1 : b ≤ 64) (h0 : 8 ≤ a0) (h1 : a0 ≤ 14) : shl .i64 b a0 = b * sz a0 := by
  refine seven (P := fun a0 => shl .i64 b a0 = b * sz a0) h0 h1 ⟨?_, ?_, ?_, ?_, ?_, ?_, ?_⟩
  · show IntKind.i64.wrap (b * 256) = b * 256; rw [i64_w, w64 _ (by omega) (by omega)]
  · show IntKind.i64.wrap (b * 512) = b * 512; rw [i64_w, w64 _ (by omega) (by omega)]
  · show IntKind.i64.wrap (b * 1024) = b * 1024; rw [i64_w, w64 _ (by omega) (by omega)]
  · show IntKind.i64.wrap (b * 2048) = b * 2048; rw [i64_w, w64 _ (by omega) (by omega)]
  · show IntKind.i64.wrap (b * 4096) = b * 4096; rw [i64_w, w64 _ (by omega) (by omega)]
  · show IntKind.i64.wrap (b * 8192) = b * 8192; rw [i64_w, w64 _ (by omega) (by omega)]
  · show IntKind.i64.wrap (b * 16384) = b * 16384; rw [i64_w, w64 _ (by omega) (by omega)]
theorem mul_hi (b a0 : Int) (hb0 : 0 ≤ b) (hb1 : b ≤ 64) : 0 ≤ b * sz a0 ∧ b * sz a0 ≤ 1048576 := by
  rcases sz_cases a0 with h | h | h | h | h | h | h <;> rw [h] <;> omega
theorem size_doc (a0 a1 a2 a3 a4 : Int) (l : List Int) (h0 : 8 ≤ a0) (h1 : a0 ≤ 14) : keepsakeref20_size.f a0 a1 a2 a3 a4 l = some (sz a0) := by
  refine seven (P := fun a0 => keepsakeref20_size.f a0 a1 a2 a3 a4 l = some (sz a0)) h0 h1 ⟨?_, ?_, ?_, ?_, ?_, ?_, ?_⟩ <;> (unfold keepsakeref20_size.f; rw [w64 _ (by decide) (by decide)]; decide)
theorem long_ok {a0 a1 a2 a3 a4 : Int} (h : Ok a0 a1 a2 a3 a4) (l : List Int) : bank_Long.f a0 a1 a2 a3 a4 l = some (a1 * sz a0) := by
  unfold bank_Long.f
  rw [right_bank, ok_okB h, Option.bind_some, if_pos rfl, if_pos (show (0 : Int) ≤ a0 by have := h.s0; omega), shl_sz _ _ h.b0 h.b1 h.s0 h.s1]
theorem long_no {a0 a1 a2 a3 a4 : Int} (h : okB a0 a1 a2 a3 a4 = false) (l : List Int) : bank_Long.f a0 a1 a2 a3 a4 l = some 0 := by
  unfold bank_Long.f
  rw [right_bank, h, Option.bind_some, if_neg (by decide)]
theorem long_doc {a0 a1 a2 a3 a4 : Int} (h : Ok a0 a1 a2 a3 a4) (l : List Int) : keepsakeref20_Long.f a0 a1 a2 a3 a4 l = some (a1 * sz a0) := by
  unfold keepsakeref20_Long.f
  have hm := mul_hi a1 a0 (by have := h.b0; omega) h.b1
  rw [right_doc, ok_okB h, Option.bind_some, if_pos rfl, size_doc _ _ _ _ _ _ h.s0 h.s1, Option.bind_some, w64 _ (by omega) (by omega)]
theorem long_doc_no {a0 a1 a2 a3 a4 : Int} (h : okB a0 a1 a2 a3 a4 = false) (l : List Int) : keepsakeref20_Long.f a0 a1 a2 a3 a4 l = some 0 := by
  unfold keepsakeref20_Long.f
  rw [right_doc, h, Option.bind_some, if_neg (by decide)]

end Go.Proofs.Ytoiiphlhdnlniaa.Plain
