-- written by a program of mine (xprint_patch.py over the kit's print)
import Derived.Test.YtogmbgmepkhnaaaRows
import Derived.Test.YtogmbgmepkhnaaaAx8
import Derived.Test.YtogmbgmepkhnaaaPureBankEnds
import Derived.WalkKit
import Derived.ProofKit
import Derived.OpenShut
import Derived.ShutString
import Derived.ChangeOld
import Derived.Below
import Derived.SizedLaws
import Derived.Test.YtogmbgmepkhnaaaWSized
namespace Go.Proofs.Ytogmbgmepkhnaaa.bankEnds
open Go.ChangeShapes Go.WideShapes Go.ChangeAt Go.RowKit
open Go.ChangeMaps (open_string shut_string)
set_option linter.unusedSimpArgs false
set_option linter.unusedVariables false
theorem own : ownKnob Try.prog.godebug = none := by kernel_rfl
theorem laidOut : laidOutB Try.prog = true := by kernel_rfl
def IsRow (k : IntKind) (w : World) (a : Option Addr) (len cap : Nat) (zs : List Int) : Prop :=
  (a = none ∧ len = 0 ∧ cap = 0 ∧ zs = []) ∨
  ∃ x, a = some x ∧ len ≤ cap ∧ cap ≤ maxLen ∧ zs.length = cap ∧ (∀ i, i < zs.length → w.cell? (x.add i) = some (.int k (zs.getD i 0))) ∧ ∀ n ∈ zs, (Lit.int k n).wf = true
set_option maxRecDepth 100000 in
theorem lifted (os : Os) (started : os.Started) (H : Type) (enc : TypeId × Value → H) :
    ReturnsInHanded {} Try.checked os 6 .any (Rows.bankEndsSpec.pre6 enc Try.prog Try.f6 Rows.bankEndsRow.domain false) (Rows.bankEndsSpec.post enc Try.prog Try.f6 false true false false) := by
  refine returnsInHanded_of_change_sized (C := Try.checked) own started (by kernel_rfl) Try.func6
    (ChangeSpec.witness6 (enc := enc) (C := Try.checked) false ⟨#[], #[.int .u8 0, .int .u8 0, .int .u8 0, .int .u8 0, .agg #[.int .u8 0, .int .u8 0], .agg #[.int .u8 0, .int .u8 0], .int .u16 0, .int .u8 0], []⟩ 8 (by kernel_rfl) (by kernel_rfl) (by kernel_rfl) (by kernel_rfl)) ?_
  intro W base args ds gs before hval0 hW hcnd hsz0 _
  have hsz : (DataW.weightsEach Try.prog (Try.f6.params.toList ++ Rows.bankEndsSpec.plain.varTypes Try.prog) (ds ++ gs)).all (· ≤ reachBytes) = true := hsz0
  have hval : ∀ (j : Nat) t v, Try.f6.params[j]? = some t → args[j]? = some v → Value.okWide Try.prog W .any base t v := hval0
  have hW' := hW
  obtain ⟨p, q, hA0, hV, rfl, hfz, hnd⟩ := hW
  have hA : DataW.TrodAll enc Try.prog W 0 (fun _ => true) true Try.f6.params.toList args.toList ds p := hA0
  rw [Try.params6] at hA hval hsz
  obtain ⟨v0, vs0, d0, ds0, p0, q0, hargs, rfl, rfl, h0, r0⟩ := trodAll_cons hA
  obtain ⟨v1, vs1, d1, ds1, p1, q1, rfl, rfl, rfl, h1, r1⟩ := trodAll_cons r0
  obtain ⟨v2, vs2, d2, ds2, p2, q2, rfl, rfl, rfl, h2, r2⟩ := trodAll_cons r1
  obtain ⟨v3, vs3, d3, ds3, p3, q3, rfl, rfl, rfl, h3, r3⟩ := trodAll_cons r2
  obtain ⟨v4, vs4, d4, ds4, p4, q4, rfl, rfl, rfl, h4, r4⟩ := trodAll_cons r3
  obtain ⟨v5, vs5, d5, ds5, p5, q5, rfl, rfl, rfl, h5, r5⟩ := trodAll_cons r4
  obtain ⟨v6, vs6, d6, ds6, p6, q6, rfl, rfl, rfl, h6, r6⟩ := trodAll_cons r5
  obtain ⟨v7, vs7, d7, ds7, p7, q7, rfl, rfl, rfl, h7, r7⟩ := trodAll_cons r6
  obtain ⟨rfl, rfl, rfl⟩ := trodAll_nil r7
  obtain rfl : args = #[v0, v1, v2, v3, v4, v5, v6, v7] := by cases args; simp_all
  obtain ⟨rfl, rfl⟩ := trodVars_none hV
  obtain ⟨a0, rfl, rfl, rfl, w0⟩ := open_int Try.underlying5 (hval 0 5 v0 rfl rfl) h0
  obtain ⟨a1, rfl, rfl, rfl, w1⟩ := open_int Try.underlying5 (hval 1 5 v1 rfl rfl) h1
  obtain ⟨a2, rfl, rfl, rfl, w2⟩ := open_int Try.underlying5 (hval 2 5 v2 rfl rfl) h2
  obtain ⟨a3, rfl, rfl, rfl, w3⟩ := open_int Try.underlying5 (hval 3 5 v3 rfl rfl) h3
  have k4 := h4
  have lt4 : ∀ x ∈ p4, x.block < W.heap.size := by obtain ⟨m, hm⟩ := k4; exact DataW.trod_lt m _ _ _ hm
  obtain ⟨cs4, rfl, sz4⟩ := okWide_struct Try.underlying25 (hval 4 25 v4 rfl rfl)
  obtain ⟨fu4, hf4⟩ := h4
  obtain ⟨xs4, n4, rfl, _, _, ln4, el4⟩ := DataW.trod_struct Try.underlying25 hf4
  have e4_0 := el4 0 _ rfl
  rw [List.getElem?_eq_getElem (show 0 < xs4.length by rw [ln4]; decide)] at e4_0
  obtain ⟨a4_0, q4_0, _, w4_0⟩ := DataW.trod_int Try.underlying5 e4_0
  have e4_1 := el4 1 _ rfl
  rw [List.getElem?_eq_getElem (show 1 < xs4.length by rw [ln4]; decide)] at e4_1
  obtain ⟨a4_1, q4_1, _, w4_1⟩ := DataW.trod_int Try.underlying5 e4_1
  have cc4_5 : Try.prog.cellsOf 5 = 1 := by kernel_rfl
  have cc4_25 : Try.prog.cellsOf 25 = 2 := by kernel_rfl
  obtain rfl : cs4 = #[.int .u8 a4_0, .int .u8 a4_1] := by
    clear el4 hf4 hval hsz hval0 hsz0 hW' hA hA0
    (try clear hL)
    (try clear hG)
    rw [cc4_25] at sz4
    obtain ⟨l⟩ := cs4
    have hl : l.length = 2 := by simpa using sz4
    clear sz4
    obtain ⟨c0, l, rfl⟩ : ∃ c t, l = c :: t := by cases l with | nil => cases hl | cons c t => exact ⟨c, t, rfl⟩
    obtain ⟨c1, l, rfl⟩ : ∃ c t, l = c :: t := by cases l with | nil => cases hl | cons c t => exact ⟨c, t, rfl⟩
    obtain rfl : l = [] := by cases l with | nil => rfl | cons c t => simp at hl
    simp [cc4_5, cc4_25] at q4_0 q4_1
    have e0 : c0 = Value.int .u8 a4_0 := (List.cons.inj (show [c0] = [Value.int .u8 a4_0] from q4_0)).1
    have e1 : c1 = Value.int .u8 a4_1 := (List.cons.inj (show [c1] = [Value.int .u8 a4_1] from q4_1)).1
    subst e0 e1
    rfl
  have k5 := h5
  have lt5 : ∀ x ∈ p5, x.block < W.heap.size := by obtain ⟨m, hm⟩ := k5; exact DataW.trod_lt m _ _ _ hm
  obtain ⟨cs5, rfl, sz5⟩ := okWide_struct Try.underlying25 (hval 5 25 v5 rfl rfl)
  obtain ⟨fu5, hf5⟩ := h5
  obtain ⟨xs5, n5, rfl, _, _, ln5, el5⟩ := DataW.trod_struct Try.underlying25 hf5
  have e5_0 := el5 0 _ rfl
  rw [List.getElem?_eq_getElem (show 0 < xs5.length by rw [ln5]; decide)] at e5_0
  obtain ⟨a5_0, q5_0, _, w5_0⟩ := DataW.trod_int Try.underlying5 e5_0
  have e5_1 := el5 1 _ rfl
  rw [List.getElem?_eq_getElem (show 1 < xs5.length by rw [ln5]; decide)] at e5_1
  obtain ⟨a5_1, q5_1, _, w5_1⟩ := DataW.trod_int Try.underlying5 e5_1
  have cc5_5 : Try.prog.cellsOf 5 = 1 := by kernel_rfl
  have cc5_25 : Try.prog.cellsOf 25 = 2 := by kernel_rfl
  obtain rfl : cs5 = #[.int .u8 a5_0, .int .u8 a5_1] := by
    clear el5 hf5 hval hsz hval0 hsz0 hW' hA hA0
    (try clear hL)
    (try clear hG)
    rw [cc5_25] at sz5
    obtain ⟨l⟩ := cs5
    have hl : l.length = 2 := by simpa using sz5
    clear sz5
    obtain ⟨c0, l, rfl⟩ : ∃ c t, l = c :: t := by cases l with | nil => cases hl | cons c t => exact ⟨c, t, rfl⟩
    obtain ⟨c1, l, rfl⟩ : ∃ c t, l = c :: t := by cases l with | nil => cases hl | cons c t => exact ⟨c, t, rfl⟩
    obtain rfl : l = [] := by cases l with | nil => rfl | cons c t => simp at hl
    simp [cc5_5, cc5_25] at q5_0 q5_1
    have e0 : c0 = Value.int .u8 a5_0 := (List.cons.inj (show [c0] = [Value.int .u8 a5_0] from q5_0)).1
    have e1 : c1 = Value.int .u8 a5_1 := (List.cons.inj (show [c1] = [Value.int .u8 a5_1] from q5_1)).1
    subst e0 e1
    rfl
  obtain ⟨a6, rfl, rfl, rfl, w6⟩ := open_int Try.underlying26 (hval 6 26 v6 rfl rfl) h6
  obtain ⟨a7, rfl, rfl, rfl, w7⟩ := open_int Try.underlying5 (hval 7 5 v7 rfl rfl) h7
  clear hA0 hval0 hsz0 hsz
  refine (All.keepsakelaw20_BankEnds.walk Pure.BankEnds a0 a1 a2 a3 a4_0 a4_1 a5_0 a5_1 a6 a7 W w0 w1 w2 w3 w4_0 w4_1 w5_0 w5_1 w6 w7).mono fun e W' ⟨he, bel⟩ => ?_
  subst he
  exact ⟨_, rfl, _, _, _, [], _, [], hW', trodAll_mk1 (shut_bool Try.underlying4 _), (trodAll_cons_mk (shut_int Try.underlying5 w0) (trodAll_cons_mk (shut_int Try.underlying5 w1) (trodAll_cons_mk (shut_int Try.underlying5 w2) (trodAll_cons_mk (shut_int Try.underlying5 w3) (trodAll_cons_mk (Below.trod laidOut (by kernel_rfl) (of_decide_eq_true (by kernel_rfl)) k4 bel lt4) (trodAll_cons_mk (Below.trod laidOut (by kernel_rfl) (of_decide_eq_true (by kernel_rfl)) k5 bel lt5) (trodAll_cons_mk (shut_int Try.underlying26 w6) (trodAll_cons_mk (shut_int Try.underlying5 w7) trodAll_mk0)))))))), rfl, bel.frame _, fun h => by cases h⟩
theorem over : Rows.bankEndsRow.holds Try.pinned (OpenSpec.ofChange Rows.bankEndsSpec) :=
  OpenClaim.holds_of_wide 6 Try.f6 rfl rfl rfl rfl rfl rfl rfl ⟨rfl, rfl, rfl, rfl, rfl⟩ rfl rfl rfl rfl rfl (by kernel_rfl) Try.func6 (by kernel_rfl)
    (of_decide_eq_true (by kernel_rfl)) (by unfold Func.isWrapper; first | (rw [if_pos (by decide +kernel)]; kernel_rfl) | (rw [if_neg (by decide +kernel)]; exact ⟨rfl, rfl⟩))
    (fun os started H enc _ => lifted os started H enc)
theorem proved : Rows.BankEndsSaid := over
#print axioms proved
end Go.Proofs.Ytogmbgmepkhnaaa.bankEnds
namespace Go.Proofs.Ytogmbgmepkhnaaa
/-- The row, under a short name, for the claim. -/
theorem bankEnds_holds : Rows.BankEndsSaid := bankEnds.proved
end Go.Proofs.Ytogmbgmepkhnaaa
