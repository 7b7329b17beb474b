-- written by a program of mine (xprint_patch.py over the kit's print)
import Derived.Test.YtogmbgmepkhnaaaRows
import Derived.Test.YtogmbgmepkhnaaaAx6
import Derived.Test.YtogmbgmepkhnaaaPureBankTells
import Derived.WalkKit
import Derived.ProofKit
import Derived.OpenShut
import Derived.ShutString
import Derived.ChangeOld
import Derived.Below
import Derived.SizedLaws
import Derived.Test.YtogmbgmepkhnaaaWSized
namespace Go.Proofs.Ytogmbgmepkhnaaa.bankTells
open Go.ChangeShapes Go.WideShapes Go.ChangeAt Go.RowKit
open Go.ChangeMaps (open_string shut_string)
set_option linter.unusedSimpArgs false
set_option linter.unusedVariables false
theorem own : ownKnob Try.prog.godebug = none := by kernel_rfl
theorem laidOut : laidOutB Try.prog = true := by kernel_rfl
def IsRow (k : IntKind) (w : World) (a : Option Addr) (len cap : Nat) (zs : List Int) : Prop :=
  (a = none ∧ len = 0 ∧ cap = 0 ∧ zs = []) ∨
  ∃ x, a = some x ∧ len ≤ cap ∧ cap ≤ maxLen ∧ zs.length = cap ∧ (∀ i, i < zs.length → w.cell? (x.add i) = some (.int k (zs.getD i 0))) ∧ ∀ n ∈ zs, (Lit.int k n).wf = true
set_option maxRecDepth 100000 in
theorem lifted (os : Os) (started : os.Started) (H : Type) (enc : TypeId × Value → H) :
    ReturnsInHanded {} Try.checked os 3 .any (Rows.bankTellsSpec.pre6 enc Try.prog Try.f3 Rows.bankTellsRow.domain false) (Rows.bankTellsSpec.post enc Try.prog Try.f3 false true false false) := by
  refine returnsInHanded_of_change_sized (C := Try.checked) own started (by kernel_rfl) Try.func3
    (ChangeSpec.witness6 (enc := enc) (C := Try.checked) false ⟨#[], #[.int .i64 0, .int .i64 0, .agg #[.int .i64 0, .int .i64 0, .int .i64 0], .agg #[.int .u8 0, .int .u8 0], .int .u16 0], []⟩ 8 (by kernel_rfl) (by kernel_rfl) (by kernel_rfl) (by kernel_rfl)) ?_
  intro W base args ds gs before hval0 hW hcnd hsz0 _
  have hsz : (DataW.weightsEach Try.prog (Try.f3.params.toList ++ Rows.bankTellsSpec.plain.varTypes Try.prog) (ds ++ gs)).all (· ≤ reachBytes) = true := hsz0
  have hval : ∀ (j : Nat) t v, Try.f3.params[j]? = some t → args[j]? = some v → Value.okWide Try.prog W .any base t v := hval0
  have hW' := hW
  obtain ⟨p, q, hA0, hV, rfl, hfz, hnd⟩ := hW
  have hA : DataW.TrodAll enc Try.prog W 0 (fun _ => true) true Try.f3.params.toList args.toList ds p := hA0
  rw [Try.params3] at hA hval hsz
  obtain ⟨v0, vs0, d0, ds0, p0, q0, hargs, rfl, rfl, h0, r0⟩ := trodAll_cons hA
  obtain ⟨v1, vs1, d1, ds1, p1, q1, rfl, rfl, rfl, h1, r1⟩ := trodAll_cons r0
  obtain ⟨v2, vs2, d2, ds2, p2, q2, rfl, rfl, rfl, h2, r2⟩ := trodAll_cons r1
  obtain ⟨v3, vs3, d3, ds3, p3, q3, rfl, rfl, rfl, h3, r3⟩ := trodAll_cons r2
  obtain ⟨v4, vs4, d4, ds4, p4, q4, rfl, rfl, rfl, h4, r4⟩ := trodAll_cons r3
  obtain ⟨rfl, rfl, rfl⟩ := trodAll_nil r4
  obtain rfl : args = #[v0, v1, v2, v3, v4] := by cases args; simp_all
  obtain ⟨rfl, rfl⟩ := trodVars_none hV
  obtain ⟨a0, rfl, rfl, rfl, w0⟩ := open_int Try.underlying3 (hval 0 3 v0 rfl rfl) h0
  obtain ⟨a1, rfl, rfl, rfl, w1⟩ := open_int Try.underlying3 (hval 1 3 v1 rfl rfl) h1
  have k2 := h2
  have lt2 : ∀ x ∈ p2, x.block < W.heap.size := by obtain ⟨m, hm⟩ := k2; exact DataW.trod_lt m _ _ _ hm
  obtain ⟨cs2, rfl, sz2⟩ := okWide_struct Try.underlying23 (hval 2 23 v2 rfl rfl)
  obtain ⟨fu2, hf2⟩ := h2
  obtain ⟨xs2, n2, rfl, _, _, ln2, el2⟩ := DataW.trod_struct Try.underlying23 hf2
  have e2_0 := el2 0 _ rfl
  rw [List.getElem?_eq_getElem (show 0 < xs2.length by rw [ln2]; decide)] at e2_0
  obtain ⟨a2_0, q2_0, _, w2_0⟩ := DataW.trod_int Try.underlying3 e2_0
  have e2_1 := el2 1 _ rfl
  rw [List.getElem?_eq_getElem (show 1 < xs2.length by rw [ln2]; decide)] at e2_1
  obtain ⟨a2_1, q2_1, _, w2_1⟩ := DataW.trod_int Try.underlying3 e2_1
  have e2_2 := el2 2 _ rfl
  rw [List.getElem?_eq_getElem (show 2 < xs2.length by rw [ln2]; decide)] at e2_2
  obtain ⟨a2_2, q2_2, _, w2_2⟩ := DataW.trod_int Try.underlying3 e2_2
  have cc2_3 : Try.prog.cellsOf 3 = 1 := by kernel_rfl
  have cc2_23 : Try.prog.cellsOf 23 = 3 := by kernel_rfl
  obtain rfl : cs2 = #[.int .i64 a2_0, .int .i64 a2_1, .int .i64 a2_2] := by
    clear el2 hf2 hval hsz hval0 hsz0 hW' hA hA0
    (try clear hL)
    (try clear hG)
    rw [cc2_23] at sz2
    obtain ⟨l⟩ := cs2
    have hl : l.length = 3 := by simpa using sz2
    clear sz2
    obtain ⟨c0, l, rfl⟩ : ∃ c t, l = c :: t := by cases l with | nil => cases hl | cons c t => exact ⟨c, t, rfl⟩
    obtain ⟨c1, l, rfl⟩ : ∃ c t, l = c :: t := by cases l with | nil => cases hl | cons c t => exact ⟨c, t, rfl⟩
    obtain ⟨c2, l, rfl⟩ : ∃ c t, l = c :: t := by cases l with | nil => cases hl | cons c t => exact ⟨c, t, rfl⟩
    obtain rfl : l = [] := by cases l with | nil => rfl | cons c t => simp at hl
    simp [cc2_3, cc2_23] at q2_0 q2_1 q2_2
    have e0 : c0 = Value.int .i64 a2_0 := (List.cons.inj (show [c0] = [Value.int .i64 a2_0] from q2_0)).1
    have e1 : c1 = Value.int .i64 a2_1 := (List.cons.inj (show [c1] = [Value.int .i64 a2_1] from q2_1)).1
    have e2 : c2 = Value.int .i64 a2_2 := (List.cons.inj (show [c2] = [Value.int .i64 a2_2] from q2_2)).1
    subst e0 e1 e2
    rfl
  have k3 := h3
  have lt3 : ∀ x ∈ p3, x.block < W.heap.size := by obtain ⟨m, hm⟩ := k3; exact DataW.trod_lt m _ _ _ hm
  obtain ⟨cs3, rfl, sz3⟩ := okWide_struct Try.underlying25 (hval 3 25 v3 rfl rfl)
  obtain ⟨fu3, hf3⟩ := h3
  obtain ⟨xs3, n3, rfl, _, _, ln3, el3⟩ := DataW.trod_struct Try.underlying25 hf3
  have e3_0 := el3 0 _ rfl
  rw [List.getElem?_eq_getElem (show 0 < xs3.length by rw [ln3]; decide)] at e3_0
  obtain ⟨a3_0, q3_0, _, w3_0⟩ := DataW.trod_int Try.underlying5 e3_0
  have e3_1 := el3 1 _ rfl
  rw [List.getElem?_eq_getElem (show 1 < xs3.length by rw [ln3]; decide)] at e3_1
  obtain ⟨a3_1, q3_1, _, w3_1⟩ := DataW.trod_int Try.underlying5 e3_1
  have cc3_5 : Try.prog.cellsOf 5 = 1 := by kernel_rfl
  have cc3_25 : Try.prog.cellsOf 25 = 2 := by kernel_rfl
  obtain rfl : cs3 = #[.int .u8 a3_0, .int .u8 a3_1] := by
    clear el3 hf3 hval hsz hval0 hsz0 hW' hA hA0
    (try clear hL)
    (try clear hG)
    rw [cc3_25] at sz3
    obtain ⟨l⟩ := cs3
    have hl : l.length = 2 := by simpa using sz3
    clear sz3
    obtain ⟨c0, l, rfl⟩ : ∃ c t, l = c :: t := by cases l with | nil => cases hl | cons c t => exact ⟨c, t, rfl⟩
    obtain ⟨c1, l, rfl⟩ : ∃ c t, l = c :: t := by cases l with | nil => cases hl | cons c t => exact ⟨c, t, rfl⟩
    obtain rfl : l = [] := by cases l with | nil => rfl | cons c t => simp at hl
    simp [cc3_5, cc3_25] at q3_0 q3_1
    have e0 : c0 = Value.int .u8 a3_0 := (List.cons.inj (show [c0] = [Value.int .u8 a3_0] from q3_0)).1
    have e1 : c1 = Value.int .u8 a3_1 := (List.cons.inj (show [c1] = [Value.int .u8 a3_1] from q3_1)).1
    subst e0 e1
    rfl
  obtain ⟨a4, rfl, rfl, rfl, w4⟩ := open_int Try.underlying26 (hval 4 26 v4 rfl rfl) h4
  clear hA0 hval0 hsz0 hsz
  refine (All.keepsakelaw20_BankTells.walk Pure.BankTells a0 a1 a2_0 a2_1 a2_2 a3_0 a3_1 a4 W w0 w1 w2_0 w2_1 w2_2 w3_0 w3_1 w4).mono fun e W' ⟨he, bel⟩ => ?_
  subst he
  exact ⟨_, rfl, _, _, _, [], _, [], hW', trodAll_mk1 (shut_bool Try.underlying4 _), (trodAll_cons_mk (shut_int Try.underlying3 w0) (trodAll_cons_mk (shut_int Try.underlying3 w1) (trodAll_cons_mk (Below.trod laidOut (by kernel_rfl) (of_decide_eq_true (by kernel_rfl)) k2 bel lt2) (trodAll_cons_mk (Below.trod laidOut (by kernel_rfl) (of_decide_eq_true (by kernel_rfl)) k3 bel lt3) (trodAll_cons_mk (shut_int Try.underlying26 w4) trodAll_mk0))))), rfl, bel.frame _, fun h => by cases h⟩
theorem over : Rows.bankTellsRow.holds Try.pinned (OpenSpec.ofChange Rows.bankTellsSpec) :=
  OpenClaim.holds_of_wide 3 Try.f3 rfl rfl rfl rfl rfl rfl rfl ⟨rfl, rfl, rfl, rfl, rfl⟩ rfl rfl rfl rfl rfl (by kernel_rfl) Try.func3 (by kernel_rfl)
    (of_decide_eq_true (by kernel_rfl)) (by unfold Func.isWrapper; first | (rw [if_pos (by decide +kernel)]; kernel_rfl) | (rw [if_neg (by decide +kernel)]; exact ⟨rfl, rfl⟩))
    (fun os started H enc _ => lifted os started H enc)
theorem proved : Rows.BankTellsSaid := over
#print axioms proved
end Go.Proofs.Ytogmbgmepkhnaaa.bankTells
namespace Go.Proofs.Ytogmbgmepkhnaaa
/-- The row, under a short name, for the claim. -/
theorem bankTells_holds : Rows.BankTellsSaid := bankTells.proved
end Go.Proofs.Ytogmbgmepkhnaaa
