/- What the chapter's functions answer, in plain terms: whether a cartridge can be, how long its ROM is, and where an address lies. -/
import Derived.Test.YtogmbgmepkhnaaaAx3
import Derived.Test.YtogmbgmepkhnaaaAx5
import Derived.Test.YtogmbgmepkhnaaaAx4
import Derived.Test.YtogmbgmepkhnaaaAx6
set_option linter.unusedVariables false
set_option linter.unusedSimpArgs false
namespace Go.Proofs.Ytogmbgmepkhnaaa.Plain
open Go.RowKit Go.Proofs.Ytogmbgmepkhnaaa.All Go.Proofs.YtogmbgmepkhnaaaW.PrintWords Go.Proofs.YtogmbgmepkhnaaaW.PrintLast

theorem w64 (n : Int) (h0 : -9223372036854775808 ≤ n) (h1 : n ≤ 9223372036854775807) : wrap64 n = n := by unfold wrap64; omega
structure Ok (a0 a1 a2 a3 a4 : Int) : Prop where
  s0 : 8 ≤ a0
  s1 : a0 ≤ 14
  b0 : 1 ≤ a1
  b1 : a1 ≤ 64
  e0 : 0 ≤ a2
  e1 : a2 ≤ 10
  f0 : 0 ≤ a3
  f1 : a3 ≤ 64
  r0 : 0 ≤ a4
  r1 : a4 ≤ 128
def okB (a0 a1 a2 a3 a4 : Int) : Bool := decide (8 ≤ a0 ∧ a0 ≤ 14 ∧ 1 ≤ a1 ∧ a1 ≤ 64 ∧ 0 ≤ a2 ∧ a2 ≤ 10 ∧ 0 ≤ a3 ∧ a3 ≤ 64 ∧ 0 ≤ a4 ∧ a4 ≤ 128)
theorem okB_ok {a0 a1 a2 a3 a4 : Int} (h : okB a0 a1 a2 a3 a4 = true) : Ok a0 a1 a2 a3 a4 := by
  have h := of_decide_eq_true h
  obtain ⟨h0, h1, h2, h3, h4, h5, h6, h7, h8, h9⟩ := h
  exact ⟨h0, h1, h2, h3, h4, h5, h6, h7, h8, h9⟩
theorem ok_okB {a0 a1 a2 a3 a4 : Int} (h : Ok a0 a1 a2 a3 a4) : okB a0 a1 a2 a3 a4 = true :=
  decide_eq_true ⟨h.s0, h.s1, h.b0, h.b1, h.e0, h.e1, h.f0, h.f1, h.r0, h.r1⟩
theorem right_ref (a b c : Int) : keepsakeref03_Right.f a b c = some (decide (0 ≤ a ∧ a ≤ 10 ∧ 0 ≤ b ∧ b ≤ 64 ∧ 0 ≤ c ∧ c ≤ 128)) := by
  unfold keepsakeref03_Right.f
  by_cases h1 : a ≥ 0 <;> by_cases h2 : a ≤ 10 <;> by_cases h3 : b ≥ 0 <;> by_cases h4 : b ≤ 64 <;> by_cases h5 : c ≥ 0 <;> simp [h1, h2, h3, h4, h5] <;> omega
theorem right_geo (a b c : Int) : geo_Right.f a b c = some (decide (0 ≤ a ∧ a ≤ 10 ∧ 0 ≤ b ∧ b ≤ 64 ∧ 0 ≤ c ∧ c ≤ 128)) := by
  rw [← right_ref]
  unfold geo_Right.f keepsakeref03_Right.f geo_within.f
  by_cases h1 : a ≥ 0 <;> by_cases h2 : a ≤ 10 <;> by_cases h3 : b ≥ 0 <;> by_cases h4 : b ≤ 64 <;> by_cases h5 : c ≥ 0 <;> simp [h1, h2, h3, h4, h5]
theorem right_bank (a0 a1 a2 a3 a4 : Int) (l : List Int) : bank_Right.f a0 a1 a2 a3 a4 l = some (okB a0 a1 a2 a3 a4) := by
  unfold bank_Right.f okB
  rw [right_geo]
  by_cases h1 : a0 ≥ 8 <;> by_cases h2 : a0 ≤ 14 <;> by_cases h3 : a1 ≥ 1 <;> by_cases h4 : a1 ≤ 64 <;> simp [h1, h2, h3, h4] <;> omega
theorem right_doc (a0 a1 a2 a3 a4 : Int) (l : List Int) : keepsakeref20_Right.f a0 a1 a2 a3 a4 l = some (okB a0 a1 a2 a3 a4) := by
  unfold keepsakeref20_Right.f okB
  rw [right_ref]
  by_cases h1 : a0 ≥ 8 <;> by_cases h2 : a0 ≤ 14 <;> by_cases h3 : a1 ≥ 1 <;> by_cases h4 : a1 ≤ 64 <;> simp [h1, h2, h3, h4] <;> omega

/-- A bank's bytes. -/
def sz (a0 : Int) : Int := if a0 = 8 then 256 else if a0 = 9 then 512 else if a0 = 10 then 1024 else if a0 = 11 then 2048 else if a0 = 12 then 4096 else if a0 = 13 then 8192 else 16384
theorem seven {P : Int → Prop} {a0 : Int} (h0 : 8 ≤ a0) (h1 : a0 ≤ 14) (h : P 8 ∧ P 9 ∧ P 10 ∧ P 11 ∧ P 12 ∧ P 13 ∧ P 14) : P a0 := by
  obtain ⟨h8, h9, h10, h11, h12, h13, h14⟩ := h
  rcases (show a0 = 8 ∨ a0 = 9 ∨ a0 = 10 ∨ a0 = 11 ∨ a0 = 12 ∨ a0 = 13 ∨ a0 = 14 by omega) with h | h | h | h | h | h | h <;> (subst h; assumption)
theorem sz_cases (a0 : Int) : sz a0 = 256 ∨ sz a0 = 512 ∨ sz a0 = 1024 ∨ sz a0 = 2048 ∨ sz a0 = 4096 ∨ sz a0 = 8192 ∨ sz a0 = 16384 := by
  unfold sz
  repeat' split
  all_goals simp
theorem sz_lo (a0 : Int) : 256 ≤ sz a0 := by rcases sz_cases a0 with h | h | h | h | h | h | h <;> omega
theorem sz_hi (a0 : Int) : sz a0 ≤ 16384 := by rcases sz_cases a0 with h | h | h | h | h | h | h <;> omega
theorem shl_sz (b a0 : Int) (hb0 : 1 ≤ b) (hb1 : b ≤ 64) (h0 : 8 ≤ a0) (h1 : a0 ≤ 14) : shl .i64 b a0 = b * sz a0 := by
  refine seven (P := fun a0 => shl .i64 b a0 = b * sz a0) h0 h1 ⟨?_, ?_, ?_, ?_, ?_, ?_, ?_⟩
  · show IntKind.i64.wrap (b * 256) = b * 256; rw [i64_w, w64 _ (by omega) (by omega)]
  · show IntKind.i64.wrap (b * 512) = b * 512; rw [i64_w, w64 _ (by omega) (by omega)]
  · show IntKind.i64.wrap (b * 1024) = b * 1024; rw [i64_w, w64 _ (by omega) (by omega)]
  · show IntKind.i64.wrap (b * 2048) = b * 2048; rw [i64_w, w64 _ (by omega) (by omega)]
  · show IntKind.i64.wrap (b * 4096) = b * 4096; rw [i64_w, w64 _ (by omega) (by omega)]
  · show IntKind.i64.wrap (b * 8192) = b * 8192; rw [i64_w, w64 _ (by omega) (by omega)]
  · show IntKind.i64.wrap (b * 16384) = b * 16384; rw [i64_w, w64 _ (by omega) (by omega)]
theorem mul_hi (b a0 : Int) (hb0 : 0 ≤ b) (hb1 : b ≤ 64) : 0 ≤ b * sz a0 ∧ b * sz a0 ≤ 1048576 := by
  rcases sz_cases a0 with h | h | h | h | h | h | h <;> rw [h] <;> omega
theorem size_doc (a0 a1 a2 a3 a4 : Int) (l : List Int) (h0 : 8 ≤ a0) (h1 : a0 ≤ 14) : keepsakeref20_size.f a0 a1 a2 a3 a4 l = some (sz a0) := by
  refine seven (P := fun a0 => keepsakeref20_size.f a0 a1 a2 a3 a4 l = some (sz a0)) h0 h1 ⟨?_, ?_, ?_, ?_, ?_, ?_, ?_⟩ <;> (unfold keepsakeref20_size.f; rw [w64 _ (by decide) (by decide)]; decide)
theorem long_ok {a0 a1 a2 a3 a4 : Int} (h : Ok a0 a1 a2 a3 a4) (l : List Int) : bank_Long.f a0 a1 a2 a3 a4 l = some (a1 * sz a0) := by
  unfold bank_Long.f
  rw [right_bank, ok_okB h, Option.bind_some, if_pos rfl, if_pos (show (0 : Int) ≤ a0 by have := h.s0; omega), shl_sz _ _ h.b0 h.b1 h.s0 h.s1]
theorem long_no {a0 a1 a2 a3 a4 : Int} (h : okB a0 a1 a2 a3 a4 = false) (l : List Int) : bank_Long.f a0 a1 a2 a3 a4 l = some 0 := by
  unfold bank_Long.f
  rw [right_bank, h, Option.bind_some, if_neg (by decide)]
theorem long_doc {a0 a1 a2 a3 a4 : Int} (h : Ok a0 a1 a2 a3 a4) (l : List Int) : keepsakeref20_Long.f a0 a1 a2 a3 a4 l = some (a1 * sz a0) := by
  unfold keepsakeref20_Long.f
  have hm := mul_hi a1 a0 (by have := h.b0; omega) h.b1
  rw [right_doc, ok_okB h, Option.bind_some, if_pos rfl, size_doc _ _ _ _ _ _ h.s0 h.s1, Option.bind_some, w64 _ (by omega) (by omega)]
theorem long_doc_no {a0 a1 a2 a3 a4 : Int} (h : okB a0 a1 a2 a3 a4 = false) (l : List Int) : keepsakeref20_Long.f a0 a1 a2 a3 a4 l = some 0 := by
  unfold keepsakeref20_Long.f
  rw [right_doc, h, Option.bind_some, if_neg (by decide)]

/-- Where an address lies. -/
def wh (a0 a1 a3 a4 b0 b1 a : Int) : Int × Int :=
  if a < 8192 then (1, a % 2048) else if a < 16384 then (2, a % 16)
  else if a < 24576 then (if a4 = 0 then (0, 0) else (3, (a - 16384) % (64 * a4)))
  else if a < 32768 then (if a3 = 0 then (0, 0) else (4, (a - 24576 + 8192 * b1) % (256 * a3)))
  else if a < 49152 then (5, (a - 32768) % sz a0 + sz a0 * (b0 % a1))
  else (5, (a - 49152) % sz a0 + sz a0 * (a1 - 1))
theorem prod_hi (a0 q : Int) (h0 : 0 ≤ q) (h1 : q ≤ 64) : 0 ≤ sz a0 * q ∧ sz a0 * q ≤ 1048576 := by
  rcases sz_cases a0 with h | h | h | h | h | h | h <;> rw [h] <;> omega
theorem tm (a b : Int) (h : 0 ≤ a) : Int.tmod a b = a % b := Int.tmod_eq_emod_of_nonneg h
theorem where_doc {a0 a1 a2 a3 a4 : Int} (h : Ok a0 a1 a2 a3 a4) (l : List Int) (b0 b1 a : Int) (hb0 : 0 ≤ b0) (hb0' : b0 < 256) (hb1 : 0 ≤ b1) (hb1' : b1 < 256) (ha0 : 0 ≤ a) (ha1 : a < 65536) :
    keepsakeref20_Where.f a0 a1 a2 a3 a4 l b0 b1 a = some (wh a0 a1 a3 a4 b0 b1 a) := by
  have := h.f0; have := h.f1; have := h.r0; have := h.r1; have hb := h.b0; have hb' := h.b1
  have hz := sz_lo a0; have hz' := sz_hi a0
  unfold keepsakeref20_Where.f wh
  rw [right_doc, ok_okB h, Option.bind_some, if_pos rfl, size_doc _ _ _ _ _ _ h.s0 h.s1, w64 a (by omega) (by omega), w64 b0 (by omega) (by omega), w64 b1 (by omega) (by omega)]
  by_cases c1 : a < 8192
  · rw [if_pos c1, if_pos c1, tm _ _ ha0]
  rw [if_neg c1, if_neg c1]
  by_cases c2 : a < 16384
  · rw [if_pos c2, if_pos c2, tm _ _ ha0]
  rw [if_neg c2, if_neg c2]
  by_cases c3 : a < 24576
  · rw [if_pos c3, if_pos c3, w64 (64 * a4) (by omega) (by omega)]
    by_cases c : a4 = 0
    · rw [if_pos c, if_pos c]
    · rw [if_neg c, if_neg c, if_neg (by omega), w64 _ (by omega) (by omega), tm _ _ (by omega)]
  rw [if_neg c3, if_neg c3]
  by_cases c4 : a < 32768
  · rw [if_pos c4, if_pos c4, w64 (256 * a3) (by omega) (by omega)]
    by_cases c : a3 = 0
    · rw [if_pos c, if_pos c]
    · rw [if_neg c, if_neg c, if_neg (by omega), w64 (a - 24576) (by omega) (by omega), w64 (8192 * b1) (by omega) (by omega), w64 _ (by omega) (by omega), tm _ _ (by omega)]
  rw [if_neg c4, if_neg c4]
  have q0 := Int.emod_nonneg b0 (show a1 ≠ 0 by omega)
  have q1 := Int.emod_lt_of_pos b0 (show 0 < a1 by omega)
  by_cases c5 : a < 49152
  · have r0 := Int.emod_nonneg (a - 32768) (show sz a0 ≠ 0 by omega)
    have r1 := Int.emod_lt_of_pos (a - 32768) (show 0 < sz a0 by omega)
    have p := prod_hi a0 (b0 % a1) q0 (by omega)
    rw [if_pos c5, if_pos c5, Option.bind_some, if_neg (by omega), Option.bind_some, if_neg (by omega), w64 (a - 32768) (by omega) (by omega), tm _ _ (show 0 ≤ a - 32768 by omega), tm _ _ hb0, w64 (sz a0 * (b0 % a1)) (by omega) (by omega), w64 _ (by omega) (by omega)]
  rw [if_neg c5, if_neg c5]
  have r0 := Int.emod_nonneg (a - 49152) (show sz a0 ≠ 0 by omega)
  have r1 := Int.emod_lt_of_pos (a - 49152) (show 0 < sz a0 by omega)
  have p := prod_hi a0 (a1 - 1) (by omega) (by omega)
  rw [Option.bind_some, if_neg (by omega), Option.bind_some, w64 (a - 49152) (by omega) (by omega), tm _ _ (show 0 ≤ a - 49152 by omega), w64 (a1 - 1) (by omega) (by omega), w64 (sz a0 * (a1 - 1)) (by omega) (by omega), w64 _ (by omega) (by omega)]
theorem where_doc_no {a0 a1 a2 a3 a4 : Int} (h : okB a0 a1 a2 a3 a4 = false) (l : List Int) (b0 b1 a : Int) : keepsakeref20_Where.f a0 a1 a2 a3 a4 l b0 b1 a = some (0, 0) := by
  unfold keepsakeref20_Where.f
  rw [right_doc, h, Option.bind_some, if_neg (by decide)]

/-! ### the table -/
def Y (s f z : Int) : List S45 := [⟨1, 8192, 2048⟩, ⟨2, 16384, 16⟩, ⟨3, 24576, s⟩, ⟨4, 32768, f⟩, ⟨5, 49152, z⟩, ⟨5, 65536, z⟩]
def row (s f z : Int) (i : Nat) : S45 := (Y s f z).getD i z45
theorem step (i : Nat) (hi : i < 6) (k : Nat) (x7 x9 x10 s f z p0 p1 p2 p3 p4 q0 q1 t0 t1 t2 : Int) (l : List Int) :
    bank_Where.l0 (k + 1) x7 x9 x10 (Y s f z) 6 (i : Int) p0 p1 p2 p3 p4 l q0 q1 t0 t1 t2 =
      if x10 < (row s f z i).f1 then bank_Where.j1 k x7 x9 x10 p0 p1 p2 p3 p4 l q0 q1 (row s f z i).f0 (row s f z i).f1 (row s f z i).f2
      else bank_Where.l0 k x7 (row s f z i).f1 x10 (Y s f z) 6 ((i + 1 : Nat) : Int) p0 p1 p2 p3 p4 l q0 q1 t0 t1 t2 := by
  have e : rd_T45 (Y s f z) (i : Int) = row s f z i := by
    rcases (show i = 0 ∨ i = 1 ∨ i = 2 ∨ i = 3 ∨ i = 4 ∨ i = 5 by omega) with h | h | h | h | h | h <;> (subst h; rfl)
  rw [bank_Where.l0, if_pos (by omega), if_pos (by omega), if_pos (show (i : Int) < ((Y s f z).length : Int) by show (i : Int) < (6 : Int); omega), e, w64 _ (by omega) (by omega)]
  rfl
theorem where_ok {a0 a1 a2 a3 a4 : Int} (h : Ok a0 a1 a2 a3 a4) (l : List Int) (b0 b1 a : Int) (hb0 : 0 ≤ b0) (hb0' : b0 < 256) (hb1 : 0 ≤ b1) (hb1' : b1 < 256) (ha0 : 0 ≤ a) (ha1 : a < 65536) (k : Nat) :
    bank_Where.f (k + 8) a0 a1 a2 a3 a4 l b0 b1 a = some (wh a0 a1 a3 a4 b0 b1 a) := by
  have := h.f0; have := h.f1; have := h.r0; have := h.r1; have hb := h.b0; have hb' := h.b1
  have hz := sz_lo a0; have hz' := sz_hi a0
  have es : geo_Sram.f a4 = some (64 * a4) := by
    unfold geo_Sram.f geo_within.f
    rw [if_pos (by omega), Option.bind_some, if_pos (by simp; omega), w64 _ (by omega) (by omega), Int.mul_comm]
  have ef : geo_Flash.f a3 = some (256 * a3) := by
    unfold geo_Flash.f geo_within.f
    rw [if_pos (by omega), Option.bind_some, if_pos (by simp; omega), w64 _ (by omega) (by omega), Int.mul_comm]
  unfold bank_Where.f
  rw [right_bank, ok_okB h, Option.bind_some, if_pos rfl, if_pos (show (0 : Int) ≤ a0 by have := h.s0; omega), es, ef, Option.bind_some, Option.bind_some, Option.bind_some,
    shl_sz 1 a0 (by omega) (by omega) h.s0 h.s1, Int.one_mul, w64 a (by omega) (by omega)]
  show bank_Where.l0 (k + 8) (sz a0) 0 a (Y (64 * a4) (256 * a3) (sz a0)) 6 ((0 : Nat) : Int) a0 a1 a2 a3 a4 l b0 b1 0 0 0 = _
  have q0 := Int.emod_nonneg b0 (show a1 ≠ 0 by omega)
  have q1 := Int.emod_lt_of_pos b0 (show 0 < a1 by omega)
  unfold wh
  rw [step 0 (by omega)]
  show (if a < 8192 then _ else _) = _
  by_cases c1 : a < 8192
  · rw [if_pos c1, if_pos c1]
    show bank_Where.j1 (k + 6 + 1) (sz a0) 0 a a0 a1 a2 a3 a4 l b0 b1 1 8192 2048 = _
    rw [bank_Where.j1, if_neg (by decide), if_neg (by decide), bank_Where.j2, if_neg (by decide), if_neg (by decide), if_neg (by decide), w64 _ (by omega) (by omega), tm _ _ (by omega), Int.sub_zero]
  rw [if_neg c1, if_neg c1, step 1 (by omega)]
  show (if a < 16384 then _ else _) = _
  by_cases c2 : a < 16384
  · rw [if_pos c2, if_pos c2]
    show bank_Where.j1 (k + 5 + 1) (sz a0) 8192 a a0 a1 a2 a3 a4 l b0 b1 2 16384 16 = _
    rw [bank_Where.j1, if_neg (by decide), if_neg (by decide), bank_Where.j2, if_neg (by decide), if_neg (by decide), if_neg (by decide), w64 _ (by omega) (by omega), tm _ _ (by omega), show (a - 8192) % 16 = a % 16 by omega]
  rw [if_neg c2, if_neg c2, step 2 (by omega)]
  show (if a < 24576 then _ else _) = _
  by_cases c3 : a < 24576
  · rw [if_pos c3, if_pos c3]
    show bank_Where.j1 (k + 4 + 1) (sz a0) 16384 a a0 a1 a2 a3 a4 l b0 b1 3 24576 (64 * a4) = _
    by_cases c : a4 = 0
    · rw [bank_Where.j1, if_pos (by omega), if_pos c]
    · rw [bank_Where.j1, if_neg (by omega), if_neg (by decide), bank_Where.j2, if_neg (by omega), if_neg (by decide), if_neg (by decide), w64 _ (by omega) (by omega), tm _ _ (by omega), if_neg c]
  rw [if_neg c3, if_neg c3, step 3 (by omega)]
  show (if a < 32768 then _ else _) = _
  by_cases c4 : a < 32768
  · rw [if_pos c4, if_pos c4]
    show bank_Where.j1 (k + 3 + 1) (sz a0) 24576 a a0 a1 a2 a3 a4 l b0 b1 4 32768 (256 * a3) = _
    by_cases c : a3 = 0
    · rw [bank_Where.j1, if_pos (by omega), if_pos c]
    · rw [bank_Where.j1, if_neg (by omega), if_pos rfl, bank_Where.j2, if_neg (by omega), if_neg (by decide), if_neg (by decide), w64 b1 (by omega) (by omega), w64 (8192 * b1) (by omega) (by omega), w64 (a - 24576) (by omega) (by omega), w64 _ (by omega) (by omega), tm _ _ (by omega), if_neg c]
  rw [if_neg c4, if_neg c4, step 4 (by omega)]
  show (if a < 49152 then _ else _) = _
  by_cases c5 : a < 49152
  · have r0 := Int.emod_nonneg (a - 32768) (show sz a0 ≠ 0 by omega)
    have r1 := Int.emod_lt_of_pos (a - 32768) (show 0 < sz a0 by omega)
    have p := prod_hi a0 (b0 % a1) q0 (by omega)
    rw [if_pos c5, if_pos c5]
    show bank_Where.j1 (k + 2 + 1) (sz a0) 32768 a a0 a1 a2 a3 a4 l b0 b1 5 49152 (sz a0) = _
    rw [bank_Where.j1, if_neg (by omega), if_neg (by decide), bank_Where.j2, if_neg (by omega), if_pos rfl, if_neg (by omega), w64 b0 (by omega) (by omega), w64 (a - 32768) (by omega) (by omega), tm _ _ (show 0 ≤ a - 32768 by omega), tm _ _ hb0, Int.mul_comm (b0 % a1), w64 (sz a0 * (b0 % a1)) (by omega) (by omega), w64 _ (by omega) (by omega)]
  rw [if_neg c5, if_neg c5, step 5 (by omega)]
  show (if a < 65536 then _ else _) = _
  rw [if_pos ha1]
  have r0 := Int.emod_nonneg (a - 49152) (show sz a0 ≠ 0 by omega)
  have r1 := Int.emod_lt_of_pos (a - 49152) (show 0 < sz a0 by omega)
  have p := prod_hi a0 (a1 - 1) (by omega) (by omega)
  show bank_Where.j1 (k + 1 + 1) (sz a0) 49152 a a0 a1 a2 a3 a4 l b0 b1 5 65536 (sz a0) = _
  rw [bank_Where.j1, if_neg (by omega), if_neg (by decide), bank_Where.j2, if_neg (by omega), if_neg (by decide), if_pos rfl, w64 (a1 - 1) (by omega) (by omega), w64 (a - 49152) (by omega) (by omega), tm _ _ (show 0 ≤ a - 49152 by omega), Int.mul_comm (a1 - 1), w64 (sz a0 * (a1 - 1)) (by omega) (by omega), w64 _ (by omega) (by omega)]
theorem where_no {a0 a1 a2 a3 a4 : Int} (h : okB a0 a1 a2 a3 a4 = false) (l : List Int) (b0 b1 a : Int) (k : Nat) : bank_Where.f k a0 a1 a2 a3 a4 l b0 b1 a = some (0, 0) := by
  unfold bank_Where.f
  rw [right_bank, h, Option.bind_some, if_neg (by decide)]
theorem awake (k : Nat) : keepsakelaw20_awake.f (k + 8) = some true := by
  have h : Ok 8 4 0 0 0 := ⟨by decide, by decide, by decide, by decide, by decide, by decide, by decide, by decide, by decide, by decide⟩
  unfold keepsakelaw20_awake.f
  rw [right_bank, ok_okB h, Option.bind_some, if_pos rfl, long_ok h, Option.bind_some, if_pos (by decide), where_ok h _ _ _ _ (by omega) (by omega) (by omega) (by omega) (by omega) (by omega)]
  decide
/-- A cartridge that can be. -/
theorem cart (a0 a1 a2 a3 : Int) (h0 : 0 ≤ a0) (h0' : a0 < 256) (h1 : 0 ≤ a1) (h1' : a1 < 256) (h2 : 0 ≤ a2) (h2' : a2 < 256) (h3 : 0 ≤ a3) (h3' : a3 < 256) :
    keepsakelaw20_cart.f a0 a1 a2 a3 = some (8 + a0 % 7, 1 + a1 % 64, 0, a2 % 65, a3 % 129, []) ∧ Ok (8 + a0 % 7) (1 + a1 % 64) 0 (a2 % 65) (a3 % 129) := by
  refine ⟨?_, by omega, by omega, by omega, by omega, by omega, by omega, by omega, by omega, by omega, by omega⟩
  unfold keepsakelaw20_cart.f
  rw [tm _ _ h0, tm _ _ h1, tm _ _ h2, tm _ _ h3, w64 (a0 % 7) (by omega) (by omega), w64 (a1 % 64) (by omega) (by omega), w64 (a2 % 65) (by omega) (by omega), w64 (a3 % 129) (by omega) (by omega), w64 _ (by omega) (by omega), w64 _ (by omega) (by omega)]
theorem u8 {a : Int} (h : (Lit.int .u8 a).wf = true) : 0 ≤ a ∧ a < 256 := by
  simp [Lit.wf, IntKind.min, IntKind.max, IntKind.signed, IntKind.bits] at h
  omega
theorem u16 {a : Int} (h : (Lit.int .u16 a).wf = true) : 0 ≤ a ∧ a < 65536 := by
  simp [Lit.wf, IntKind.min, IntKind.max, IntKind.signed, IntKind.bits] at h
  omega
theorem u32 {a : Int} (h : (Lit.int .u32 a).wf = true) : 0 ≤ a ∧ a < 4294967296 := by
  simp [Lit.wf, IntKind.min, IntKind.max, IntKind.signed, IntKind.bits] at h
  omega

end Go.Proofs.Ytogmbgmepkhnaaa.Plain
