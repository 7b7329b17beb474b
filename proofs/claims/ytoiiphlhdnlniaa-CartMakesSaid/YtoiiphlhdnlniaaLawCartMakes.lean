/- The row of CartMakes: a cartridge comes in, a struct with a slice: turned by hand out of a printed row. -/
import Derived.Test.YtoiiphlhdnlniaaAx9
import Derived.Test.YtoiiphlhdnlniaaRows
import Derived.Test.YtoiiphlhdnlniaaPureCartMakes
import Derived.WalkKit
import Derived.ProofKit
import Derived.OpenShut
import Derived.ShutString
import Derived.ChangeOld
import Derived.Below
import Derived.SizedLaws
import Derived.Test.YtoiiphlhdnlniaaWSized
namespace Go.Proofs.Ytoiiphlhdnlniaa.cartMakes
open Go.ChangeShapes Go.WideShapes Go.ChangeAt Go.RowKit
open Go.ChangeMaps (open_string shut_string)
set_option linter.unusedSimpArgs false
set_option linter.unusedVariables false
theorem own : ownKnob Try.prog.godebug = none := by kernel_rfl
theorem laidOut : laidOutB Try.prog = true := by kernel_rfl
def IsRow (k : IntKind) (w : World) (a : Option Addr) (len cap : Nat) (zs : List Int) : Prop :=
  (a = none ∧ len = 0 ∧ cap = 0 ∧ zs = []) ∨
  ∃ x, a = some x ∧ len ≤ cap ∧ cap ≤ maxLen ∧ zs.length = cap ∧ (∀ i, i < zs.length → w.cell? (x.add i) = some (.int k (zs.getD i 0))) ∧ ∀ n ∈ zs, (Lit.int k n).wf = true
theorem walked (b0 b1 b2 b3 b4 : Int) (a0 : Option Addr) (len0 cap0 : Nat) (z0 : List Int) (w : World) (w0 : IsRow .u8 w a0 len0 cap0 z0) :
    Calls Try.prog 4 #[.agg #[.int .i64 b0, .int .i64 b1, .int .i64 b2, .int .i64 b3, .int .i64 b4, .slice a0 len0 cap0]] w fun e w' => e = .returned (.bool true) ∧ Below w.heap.size w w' := by
  obtain ⟨l0, rfl, hr0, hm0, hw0, hc0⟩ := Go.Proofs.YtoiiphlhdnlniaaW.PrintWords.ReadsInt.ofRowC w0
  obtain ⟨k, h⟩ := Pure.CartMakes b0 b1 b2 b3 b4 l0 (Sums.bytes_of_wf hw0) hm0
  refine (All.keepsakelaw21_CartMakes.calls k b0 b1 b2 b3 b4 _ _ l0 true w (Go.Proofs.YtoiiphlhdnlniaaW.PrintWords.Kd.C_of_reads (d := (0 : Int)) (h1 := fun _ => rfl) hr0) hc0 h).mono ?_
  rintro e w' ⟨rfl, hd⟩
  exact ⟨rfl, hd⟩
set_option maxRecDepth 100000 in
theorem lifted (os : Os) (started : os.Started) (H : Type) (enc : TypeId × Value → H) :
    ReturnsInHanded {} Try.checked os 4 .any (Rows.cartMakesSpec.pre6 enc Try.prog Try.f4 Rows.cartMakesRow.domain false) (Rows.cartMakesSpec.post enc Try.prog Try.f4 false true false false) := by
  refine returnsInHanded_of_change_sized (C := Try.checked) own started (by kernel_rfl) Try.func4
    (ChangeSpec.witness6 (enc := enc) (C := Try.checked) false ⟨#[], #[.agg #[.int .i64 0, .int .i64 0, .int .i64 0, .int .i64 0, .int .i64 0, .slice none 0 0]], []⟩ 8 (by kernel_rfl) (by kernel_rfl) (by kernel_rfl) (by kernel_rfl)) ?_
  intro W base args ds gs before hval0 hW hcnd hsz0 _
  have hsz : (DataW.weightsEach Try.prog (Try.f4.params.toList ++ Rows.cartMakesSpec.plain.varTypes Try.prog) (ds ++ gs)).all (· ≤ reachBytes) = true := hsz0
  have hval : ∀ (j : Nat) t v, Try.f4.params[j]? = some t → args[j]? = some v → Value.okWide Try.prog W .any base t v := hval0
  have hW' := hW
  obtain ⟨p, q, hA0, hV, rfl, hfz, hnd⟩ := hW
  have hA : DataW.TrodAll enc Try.prog W 0 (fun _ => true) true Try.f4.params.toList args.toList ds p := hA0
  rw [Try.params4] at hA hval hsz
  obtain ⟨v0, vs0, d0, ds0, p0, q0, hargs, rfl, rfl, h0, r0⟩ := trodAll_cons hA
  obtain ⟨rfl, rfl, rfl⟩ := trodAll_nil r0
  obtain rfl : args = #[v0] := by cases args; simp_all
  obtain ⟨rfl, rfl⟩ := trodVars_none hV
  have k0 := h0
  have lt0 : ∀ x ∈ p0, x.block < W.heap.size := by obtain ⟨m, hm⟩ := k0; exact DataW.trod_lt m _ _ _ hm
  obtain ⟨cs0, rfl, sz0⟩ := okWide_struct Try.underlying27 (hval 0 27 v0 rfl rfl)
  obtain ⟨fu0, hf0⟩ := h0
  obtain ⟨xs0, n0, rfl, _, _, ln0, el0⟩ := DataW.trod_struct Try.underlying27 hf0
  have e0_0 := el0 0 _ rfl
  rw [List.getElem?_eq_getElem (show 0 < xs0.length by rw [ln0]; decide)] at e0_0
  obtain ⟨a0_0, q0_0, _, w0_0⟩ := DataW.trod_int Try.underlying3 e0_0
  have e0_1 := el0 1 _ rfl
  rw [List.getElem?_eq_getElem (show 1 < xs0.length by rw [ln0]; decide)] at e0_1
  obtain ⟨a0_1, q0_1, _, w0_1⟩ := DataW.trod_int Try.underlying3 e0_1
  have e0_2 := el0 2 _ rfl
  rw [List.getElem?_eq_getElem (show 2 < xs0.length by rw [ln0]; decide)] at e0_2
  have e0_3 := el0 3 _ rfl
  rw [List.getElem?_eq_getElem (show 3 < xs0.length by rw [ln0]; decide)] at e0_3
  obtain ⟨xs1, n1, rfl, _, _, ln1, el1⟩ := DataW.trod_struct Try.underlying25 e0_2
  have e1_0 := el1 0 _ rfl
  rw [List.getElem?_eq_getElem (show 0 < xs1.length by rw [ln1]; decide)] at e1_0
  obtain ⟨a1_0, q1_0, _, w1_0⟩ := DataW.trod_int Try.underlying3 e1_0
  have e1_1 := el1 1 _ rfl
  rw [List.getElem?_eq_getElem (show 1 < xs1.length by rw [ln1]; decide)] at e1_1
  obtain ⟨a1_1, q1_1, _, w1_1⟩ := DataW.trod_int Try.underlying3 e1_1
  have e1_2 := el1 2 _ rfl
  rw [List.getElem?_eq_getElem (show 2 < xs1.length by rw [ln1]; decide)] at e1_2
  obtain ⟨a1_2, q1_2, _, w1_2⟩ := DataW.trod_int Try.underlying3 e1_2
  have cc3 : Try.prog.cellsOf 3 = 1 := by kernel_rfl
  have cc22 : Try.prog.cellsOf 22 = 1 := by kernel_rfl
  have cc25 : Try.prog.cellsOf 25 = 3 := by kernel_rfl
  have cc27 : Try.prog.cellsOf 27 = 6 := by kernel_rfl
  obtain ⟨a0, len0, cap0, z0, hv, w0⟩ : ∃ a0 len0 cap0 z0, cs0 = #[.int .i64 a0_0, .int .i64 a0_1, .int .i64 a1_0, .int .i64 a1_1, .int .i64 a1_2, .slice a0 len0 cap0] ∧ IsRow .u8 W a0 len0 cap0 z0 := by
    rw [cc27] at sz0
    obtain ⟨l⟩ := cs0
    have hl : l.length = 6 := by simpa using sz0
    obtain ⟨c0, l, rfl⟩ : ∃ c t, l = c :: t := by cases l with | nil => cases hl | cons c t => exact ⟨c, t, rfl⟩
    obtain ⟨c1, l, rfl⟩ : ∃ c t, l = c :: t := by cases l with | nil => cases hl | cons c t => exact ⟨c, t, rfl⟩
    obtain ⟨c2, l, rfl⟩ : ∃ c t, l = c :: t := by cases l with | nil => cases hl | cons c t => exact ⟨c, t, rfl⟩
    obtain ⟨c3, l, rfl⟩ : ∃ c t, l = c :: t := by cases l with | nil => cases hl | cons c t => exact ⟨c, t, rfl⟩
    obtain ⟨c4, l, rfl⟩ : ∃ c t, l = c :: t := by cases l with | nil => cases hl | cons c t => exact ⟨c, t, rfl⟩
    obtain ⟨c5, l, rfl⟩ : ∃ c t, l = c :: t := by cases l with | nil => cases hl | cons c t => exact ⟨c, t, rfl⟩
    obtain rfl : l = [] := by cases l with | nil => rfl | cons c t => simp at hl
    clear hval hf0 el0 el1 hW' hA
    have g0 : [c0] = [Value.int .i64 a0_0] := by simp [cc3] at q0_0; exact q0_0
    have g1 : [c1] = [Value.int .i64 a0_1] := by simp [cc3] at q0_1; exact q0_1
    have g2 : [c2] = [Value.int .i64 a1_0] := by simp [cc3, cc25] at q1_0; exact q1_0
    have g3 : [c3] = [Value.int .i64 a1_1] := by simp [cc3, cc25] at q1_1; exact q1_1
    have g4 : [c4] = [Value.int .i64 a1_2] := by simp [cc3, cc25] at q1_2; exact q1_2
    obtain rfl := (List.cons.inj g0).1
    obtain rfl := (List.cons.inj g1).1
    obtain rfl := (List.cons.inj g2).1
    obtain rfl := (List.cons.inj g3).1
    obtain rfl := (List.cons.inj g4).1
    have hs : List.take (Try.prog.cellsOf 22) (List.drop 5 [Value.int .i64 a0_0, .int .i64 a0_1, .int .i64 a1_0, .int .i64 a1_1, .int .i64 a1_2, c5]) = [c5] := by rw [cc22]; rfl
    change DataW.trod enc Try.prog W 0 (fun _ => true) true _ 22 (List.take (Try.prog.cellsOf 22) (List.drop 5 [Value.int .i64 a0_0, .int .i64 a0_1, .int .i64 a1_0, .int .i64 a1_1, .int .i64 a1_2, c5])) = _ at e0_3
    rw [hs] at e0_3
    rcases open_ints Try.underlying22 Try.underlying5 (by kernel_rfl) e0_3 with ⟨hcs, _⟩ | ⟨x, l, c, zs, hcs, _, hlc, hm, hz, _, hcell, hwz⟩
    · obtain rfl := (List.cons.inj hcs).1
      exact ⟨none, 0, 0, [], rfl, .inl ⟨rfl, rfl, rfl, rfl⟩⟩
    · obtain rfl := (List.cons.inj hcs).1
      exact ⟨some x, l, c, zs, rfl, .inr ⟨_, rfl, hlc, hm, by simpa using hz, hcell, hwz⟩⟩
  subst hv
  clear hA0 hval0 hsz0 hsz
  refine (walked a0_0 a0_1 a1_0 a1_1 a1_2 a0 len0 cap0 z0 W w0).mono fun e W' ⟨he, bel⟩ => ?_
  subst he
  exact ⟨_, rfl, _, _, _, [], _, [], hW', trodAll_mk1 (shut_bool Try.underlying4 _), (trodAll_cons_mk (Below.trod laidOut (by kernel_rfl) (of_decide_eq_true (by kernel_rfl)) k0 bel lt0) trodAll_mk0), rfl, bel.frame _, fun h => by cases h⟩
theorem over : Rows.cartMakesRow.holds Try.pinned (OpenSpec.ofChange Rows.cartMakesSpec) :=
  OpenClaim.holds_of_wide 4 Try.f4 rfl rfl rfl rfl rfl rfl rfl ⟨rfl, rfl, rfl, rfl, rfl⟩ rfl rfl rfl rfl rfl (by kernel_rfl) Try.func4 (by kernel_rfl)
    (of_decide_eq_true (by kernel_rfl)) (by unfold Func.isWrapper; first | (rw [if_pos (by decide +kernel)]; kernel_rfl) | (rw [if_neg (by decide +kernel)]; exact ⟨rfl, rfl⟩))
    (fun os started H enc _ => lifted os started H enc)
theorem proved : Rows.CartMakesSaid := over
#print axioms proved
end Go.Proofs.Ytoiiphlhdnlniaa.cartMakes
namespace Go.Proofs.Ytoiiphlhdnlniaa
/-- The row, under a short name, for the claim. -/
theorem cartMakes_holds : Rows.CartMakesSaid := cartMakes.proved
end Go.Proofs.Ytoiiphlhdnlniaa
