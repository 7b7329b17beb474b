-- written by a program of mine (xprint_patch.py over the kit's print)
import Derived.Test.YtogmbgmepkhnaaaAx0
import Derived.Test.YtogmbgmepkhnaaaAx1
import Derived.Test.YtogmbgmepkhnaaaAx3
import Derived.Test.YtogmbgmepkhnaaaAx4
import Derived.Test.YtogmbgmepkhnaaaAx6
namespace Go.Proofs.Ytogmbgmepkhnaaa.All
open Go.RowKit Go.Proofs.YtogmbgmepkhnaaaW.PrintWords Go.Proofs.YtogmbgmepkhnaaaW.PrintLast Go.Proofs.YtogmbgmepkhnaaaW.PrintMore
attribute [local go_sem] max2_int min2_int max_two min_two max_three min_three max_four min_four   -- for this text's walks alone
set_option linter.unusedVariables false
set_option linter.unusedSimpArgs false

attribute [local go_sem high] eqA34
/-! ### keepsakelaw20_BankRounds: function 7 -/
def keepsakelaw20_BankRounds.f (k : Nat) (a0 : Int) (a1 : Int) (a2 : Int) (a3 : Int) (a4_0 : Int) (a4_1 : Int) (a5 : Int) : Option (Bool) := (keepsakelaw20_awake.f k).bind fun t222 => ((keepsakelaw20_cart.f a0 a1 a2 a3).bind fun bt223 => (if 0 ≤ (Int.tmod a0 7) then ((bank_Where.f k bt223.1 bt223.2.1 bt223.2.2.1 bt223.2.2.2.1 bt223.2.2.2.2.1 bt223.2.2.2.2.2 a4_0 a4_1 (IntKind.u16.wrap (Int.tmod (wrap64 (a5)) 8192))).bind fun bt232 => ((bank_Where.f k bt223.1 bt223.2.1 bt223.2.2.1 bt223.2.2.2.1 bt223.2.2.2.2.1 bt223.2.2.2.2.2 a4_0 a4_1 (IntKind.u16.wrap (wrap64 (8192 + (Int.tmod (wrap64 (a5)) 8192))))).bind fun bt235 => ((bank_Where.f k bt223.1 bt223.2.1 bt223.2.2.1 bt223.2.2.2.1 bt223.2.2.2.2.1 bt223.2.2.2.2.2 a4_0 a4_1 (IntKind.u16.wrap (wrap64 (32768 + (Int.tmod (wrap64 (a5)) 16384))))).bind fun bt238 => ((bank_Where.f k bt223.1 bt223.2.1 bt223.2.2.1 bt223.2.2.2.1 bt223.2.2.2.2.1 bt223.2.2.2.2.2 a4_0 a4_1 (IntKind.u16.wrap (wrap64 (49152 + (Int.tmod (wrap64 (a5)) 16384))))).bind fun bt241 => (if t222 = true then ((bank_Where.f k bt223.1 bt223.2.1 bt223.2.2.1 bt223.2.2.2.1 bt223.2.2.2.2.1 bt223.2.2.2.2.2 a4_0 a4_1 (IntKind.u16.wrap (Int.tmod (wrap64 ((wrap64 (a5)) + 2048)) 8192))).bind fun bt244 => (if (bt232.1 == bt244.1 && (bt232.2 == bt244.2)) = true then ((bank_Where.f k bt223.1 bt223.2.1 bt223.2.2.1 bt223.2.2.2.1 bt223.2.2.2.2.1 bt223.2.2.2.2.2 a4_0 a4_1 (IntKind.u16.wrap (wrap64 (8192 + (Int.tmod (wrap64 ((wrap64 (a5)) + 16)) 8192))))).bind fun bt246 => (if (bt235.1 == bt246.1 && (bt235.2 == bt246.2)) = true then ((bank_Where.f k bt223.1 bt223.2.1 bt223.2.2.1 bt223.2.2.2.1 bt223.2.2.2.2.1 bt223.2.2.2.2.2 a4_0 a4_1 (IntKind.u16.wrap (wrap64 (32768 + (Int.tmod (wrap64 ((wrap64 (a5)) + (shl .i64 256 (Int.tmod a0 7)))) 16384))))).bind fun bt248 => (if (bt238.1 == bt248.1 && (bt238.2 == bt248.2)) = true then ((bank_Where.f k bt223.1 bt223.2.1 bt223.2.2.1 bt223.2.2.2.1 bt223.2.2.2.2.1 bt223.2.2.2.2.2 a4_0 a4_1 (IntKind.u16.wrap (wrap64 (49152 + (Int.tmod (wrap64 ((wrap64 (a5)) + (shl .i64 256 (Int.tmod a0 7)))) 16384))))).bind fun bt250 => (if (bt241.1 == bt250.1 && (bt241.2 == bt250.2)) = true then (if bt232.1 = 1 then (if bt235.1 = 2 then (some (bt241.1 == 5)) else (none)) else (none)) else (none))) else (none))) else (none))) else (none))) else (none)))))) else (none)))
theorem keepsakelaw20_BankRounds.mono : ∀ a0 a1 a2 a3 a4 a5 a6 k, LeO (keepsakelaw20_BankRounds.f k a0 a1 a2 a3 a4 a5 a6) (keepsakelaw20_BankRounds.f (k + 1) a0 a1 a2 a3 a4 a5 a6) := by
  intro a0 a1 a2 a3 a4 a5 a6 k
  unfold keepsakelaw20_BankRounds.f
  repeat' first
      | (with_reducible exact bank_Where.mono _ _ _ _ _ _ _ _ _ _)
      | (with_reducible exact keepsakelaw20_awake.mono _)
      | (with_reducible exact LeO.refl _)
      | (with_reducible exact LeO.none _)
      | (with_reducible refine LeO.ite ?_ ?_)
      | (with_reducible refine LeO.bind ?_ (fun _ => ?_))
      | exact bank_Where.mono _ _ _ _ _ _ _ _ _ _
      | exact keepsakelaw20_awake.mono _
      | exact LeO.none _
      | refine LeO.ite ?_ ?_
      | refine LeO.bind ?_ (fun _ => ?_)
def keepsakelaw20_BankRounds.T9 : Bool × List (List Nat × List Nat) := (true, [([], []), ([0], [0]), ([1], [1]), ([1], [1]), ([1], [1]), ([1], [1]), ([5, 1], [1, 5]), ([6, 1], [1, 6]), ([7, 1], [1, 7]), ([3, 4, 8, 1, 1], [1, 3, 4, 8]), ([2, 9, 1], [1, 2, 9]), ([1, 10], [1, 10]), ([11, 9], [11]), ([12], [12]), ([12], [12]), ([12], [12]), ([12], [12]), ([16, 12], [12, 16]), ([17, 12], [12, 17]), ([18, 12], [12, 18]), ([19, 12], [12, 19]), ([14, 15, 20, 12, 12], [12, 14, 15, 20]), ([13, 21, 12], [12, 13, 21]), ([12, 22], [12, 22]), ([23, 21], [23]), ([24], [24]), ([24], [24]), ([24], [24]), ([24], [24]), ([24], [24]), ([28, 29, 24], [24, 28, 29]), ([30, 24], [24, 30]), ([31, 24], [24, 31]), ([32, 24], [24, 32]), ([26, 27, 33, 24, 24], [24, 26, 27, 33]), ([25, 34, 24], [24, 25, 34]), ([24, 35], [24, 35]), ([36, 34], [36]), ([37], [37]), ([37], [37]), ([37], [37]), ([37], [37]), ([37], [37]), ([41, 42, 37], [37, 41, 42]), ([43, 37], [37, 43]), ([44, 37], [37, 44]), ([45, 37], [37, 45]), ([39, 40, 46, 37, 37], [37, 39, 40, 46]), ([38, 47, 37], [37, 38, 47]), ([37, 48], [37, 48]), ([49, 47], [49]), ([50], [50]), ([51, 50], [50, 51]), ([52, 50], [50, 52]), ([50, 53], [50, 53]), ([54, 50], [54]), ([55], [55]), ([56, 55], [55, 56]), ([57, 55], [55, 57]), ([55, 58], [55, 58]), ([59, 55], [59]), ([60], [60]), ([61, 60], [60, 61]), ([62, 60], [60, 62]), ([60, 63], [60, 63]), ([64, 60, 0, 1, 2, 3, 4, 5, 6, 7, 8, 9, 10, 11, 12, 13, 14, 15, 16, 17, 18, 19, 20, 21, 22, 23, 24, 25, 26, 27, 28, 29, 30, 31, 32, 33, 34, 35, 36, 37, 38, 39, 40, 41, 42, 43, 44, 45, 46, 47, 48, 49, 50, 51, 52, 53, 54, 55, 56, 57, 58, 59, 60, 61, 62, 63, 64], [64])])
def keepsakelaw20_BankRounds.B9 : List Nat := [0, 1, 3, 3, 3, 3, 35, 99, 227, 507, 1023, 2047, 4095, 8191, 8191, 8191, 8191, 73727, 204799, 466943, 991231, 2088959, 4194303, 8388607, 16777215, 33554431, 33554431, 33554431, 33554431, 33554431, 838860799, 1912602623, 4060086271, 8355053567, 17146314751, 34359738367, 68719476735, 137438953471, 274877906943, 274877906943, 274877906943, 274877906943, 274877906943, 6871947673599, 15668040695807, 33260226740223, 68444598829055, 140462610448383, 281474976710655, 562949953421311, 1125899906842623, 2251799813685247, 4503599627370495, 9007199254740991, 18014398509481983, 36028797018963967, 72057594037927935, 144115188075855871, 288230376151711743, 576460752303423487, 1152921504606846975, 2305843009213693951, 4611686018427387903, 9223372036854775807, 18446744073709551615, 36893488147419103231]
theorem keepsakelaw20_BankRounds.tab9 : rtab .any (opsOf Try.f7 9) = keepsakelaw20_BankRounds.T9 := by kernel_rfl
theorem keepsakelaw20_BankRounds.bits9 : waitsOk keepsakelaw20_BankRounds.T9.2 keepsakelaw20_BankRounds.B9 = true := by kernel_rfl
set_option maxHeartbeats 8000000 in
set_option maxRecDepth 100000 in
theorem keepsakelaw20_BankRounds.calls (k : Nat) (a0 : Int) (a1 : Int) (a2 : Int) (a3 : Int) (a4_0 : Int) (a4_1 : Int) (a5 : Int) (r : Bool) (w : World) (h : keepsakelaw20_BankRounds.f k a0 a1 a2 a3 a4_0 a4_1 a5 = some r) :
    Calls Try.prog 7 #[.int .u8 a0, .int .u8 a1, .int .u8 a2, .int .u8 a3, .agg #[.int .u8 a4_0, .int .u8 a4_1], .int .u16 a5] w fun e w' => e = .returned (.bool r) ∧ Below w.heap.size w w' := by
  have hu25 := Try.underlying25
  have hu30 := Try.underlying30
  have hu34 := Try.underlying34
  have HB := Aside0.mk (Below.refl w.heap.size w)
  have H : ((keepsakelaw20_awake.f k).bind fun t222 => ((keepsakelaw20_cart.f a0 a1 a2 a3).bind fun bt223 => (if 0 ≤ (Int.tmod a0 7) then ((bank_Where.f k bt223.1 bt223.2.1 bt223.2.2.1 bt223.2.2.2.1 bt223.2.2.2.2.1 bt223.2.2.2.2.2 a4_0 a4_1 (IntKind.u16.wrap (Int.tmod (wrap64 (a5)) 8192))).bind fun bt232 => ((bank_Where.f k bt223.1 bt223.2.1 bt223.2.2.1 bt223.2.2.2.1 bt223.2.2.2.2.1 bt223.2.2.2.2.2 a4_0 a4_1 (IntKind.u16.wrap (wrap64 (8192 + (Int.tmod (wrap64 (a5)) 8192))))).bind fun bt235 => ((bank_Where.f k bt223.1 bt223.2.1 bt223.2.2.1 bt223.2.2.2.1 bt223.2.2.2.2.1 bt223.2.2.2.2.2 a4_0 a4_1 (IntKind.u16.wrap (wrap64 (32768 + (Int.tmod (wrap64 (a5)) 16384))))).bind fun bt238 => ((bank_Where.f k bt223.1 bt223.2.1 bt223.2.2.1 bt223.2.2.2.1 bt223.2.2.2.2.1 bt223.2.2.2.2.2 a4_0 a4_1 (IntKind.u16.wrap (wrap64 (49152 + (Int.tmod (wrap64 (a5)) 16384))))).bind fun bt241 => (if t222 = true then ((bank_Where.f k bt223.1 bt223.2.1 bt223.2.2.1 bt223.2.2.2.1 bt223.2.2.2.2.1 bt223.2.2.2.2.2 a4_0 a4_1 (IntKind.u16.wrap (Int.tmod (wrap64 ((wrap64 (a5)) + 2048)) 8192))).bind fun bt244 => (if (bt232.1 == bt244.1 && (bt232.2 == bt244.2)) = true then ((bank_Where.f k bt223.1 bt223.2.1 bt223.2.2.1 bt223.2.2.2.1 bt223.2.2.2.2.1 bt223.2.2.2.2.2 a4_0 a4_1 (IntKind.u16.wrap (wrap64 (8192 + (Int.tmod (wrap64 ((wrap64 (a5)) + 16)) 8192))))).bind fun bt246 => (if (bt235.1 == bt246.1 && (bt235.2 == bt246.2)) = true then ((bank_Where.f k bt223.1 bt223.2.1 bt223.2.2.1 bt223.2.2.2.1 bt223.2.2.2.2.1 bt223.2.2.2.2.2 a4_0 a4_1 (IntKind.u16.wrap (wrap64 (32768 + (Int.tmod (wrap64 ((wrap64 (a5)) + (shl .i64 256 (Int.tmod a0 7)))) 16384))))).bind fun bt248 => (if (bt238.1 == bt248.1 && (bt238.2 == bt248.2)) = true then ((bank_Where.f k bt223.1 bt223.2.1 bt223.2.2.1 bt223.2.2.2.1 bt223.2.2.2.2.1 bt223.2.2.2.2.2 a4_0 a4_1 (IntKind.u16.wrap (wrap64 (49152 + (Int.tmod (wrap64 ((wrap64 (a5)) + (shl .i64 256 (Int.tmod a0 7)))) 16384))))).bind fun bt250 => (if (bt241.1 == bt250.1 && (bt241.2 == bt250.2)) = true then (if bt232.1 = 1 then (if bt235.1 = 2 then (some (bt241.1 == 5)) else (none)) else (none)) else (none))) else (none))) else (none))) else (none))) else (none)))))) else (none)))) = some r := h
  clear h
  replace H := Option.bind_eq_some_iff.mp H
  obtain ⟨t222, A70, H⟩ := H
  replace H : ((keepsakelaw20_cart.f a0 a1 a2 a3).bind fun bt223 => (if 0 ≤ (Int.tmod a0 7) then ((bank_Where.f k bt223.1 bt223.2.1 bt223.2.2.1 bt223.2.2.2.1 bt223.2.2.2.2.1 bt223.2.2.2.2.2 a4_0 a4_1 (IntKind.u16.wrap (Int.tmod (wrap64 (a5)) 8192))).bind fun bt232 => ((bank_Where.f k bt223.1 bt223.2.1 bt223.2.2.1 bt223.2.2.2.1 bt223.2.2.2.2.1 bt223.2.2.2.2.2 a4_0 a4_1 (IntKind.u16.wrap (wrap64 (8192 + (Int.tmod (wrap64 (a5)) 8192))))).bind fun bt235 => ((bank_Where.f k bt223.1 bt223.2.1 bt223.2.2.1 bt223.2.2.2.1 bt223.2.2.2.2.1 bt223.2.2.2.2.2 a4_0 a4_1 (IntKind.u16.wrap (wrap64 (32768 + (Int.tmod (wrap64 (a5)) 16384))))).bind fun bt238 => ((bank_Where.f k bt223.1 bt223.2.1 bt223.2.2.1 bt223.2.2.2.1 bt223.2.2.2.2.1 bt223.2.2.2.2.2 a4_0 a4_1 (IntKind.u16.wrap (wrap64 (49152 + (Int.tmod (wrap64 (a5)) 16384))))).bind fun bt241 => (if t222 = true then ((bank_Where.f k bt223.1 bt223.2.1 bt223.2.2.1 bt223.2.2.2.1 bt223.2.2.2.2.1 bt223.2.2.2.2.2 a4_0 a4_1 (IntKind.u16.wrap (Int.tmod (wrap64 ((wrap64 (a5)) + 2048)) 8192))).bind fun bt244 => (if (bt232.1 == bt244.1 && (bt232.2 == bt244.2)) = true then ((bank_Where.f k bt223.1 bt223.2.1 bt223.2.2.1 bt223.2.2.2.1 bt223.2.2.2.2.1 bt223.2.2.2.2.2 a4_0 a4_1 (IntKind.u16.wrap (wrap64 (8192 + (Int.tmod (wrap64 ((wrap64 (a5)) + 16)) 8192))))).bind fun bt246 => (if (bt235.1 == bt246.1 && (bt235.2 == bt246.2)) = true then ((bank_Where.f k bt223.1 bt223.2.1 bt223.2.2.1 bt223.2.2.2.1 bt223.2.2.2.2.1 bt223.2.2.2.2.2 a4_0 a4_1 (IntKind.u16.wrap (wrap64 (32768 + (Int.tmod (wrap64 ((wrap64 (a5)) + (shl .i64 256 (Int.tmod a0 7)))) 16384))))).bind fun bt248 => (if (bt238.1 == bt248.1 && (bt238.2 == bt248.2)) = true then ((bank_Where.f k bt223.1 bt223.2.1 bt223.2.2.1 bt223.2.2.2.1 bt223.2.2.2.2.1 bt223.2.2.2.2.2 a4_0 a4_1 (IntKind.u16.wrap (wrap64 (49152 + (Int.tmod (wrap64 ((wrap64 (a5)) + (shl .i64 256 (Int.tmod a0 7)))) 16384))))).bind fun bt250 => (if (bt241.1 == bt250.1 && (bt241.2 == bt250.2)) = true then (if bt232.1 = 1 then (if bt235.1 = 2 then (some (bt241.1 == 5)) else (none)) else (none)) else (none))) else (none))) else (none))) else (none))) else (none)))))) else (none))) = some r := H
  have A7 := Aside0.mk A70
  clear A70
  replace H := Option.bind_eq_some_iff.mp H
  obtain ⟨⟨t223, t224, t225, t226, t227, t228⟩, A80, H⟩ := H
  replace H : (if 0 ≤ (Int.tmod a0 7) then ((bank_Where.f k t223 t224 t225 t226 t227 t228 a4_0 a4_1 (IntKind.u16.wrap (Int.tmod (wrap64 (a5)) 8192))).bind fun bt232 => ((bank_Where.f k t223 t224 t225 t226 t227 t228 a4_0 a4_1 (IntKind.u16.wrap (wrap64 (8192 + (Int.tmod (wrap64 (a5)) 8192))))).bind fun bt235 => ((bank_Where.f k t223 t224 t225 t226 t227 t228 a4_0 a4_1 (IntKind.u16.wrap (wrap64 (32768 + (Int.tmod (wrap64 (a5)) 16384))))).bind fun bt238 => ((bank_Where.f k t223 t224 t225 t226 t227 t228 a4_0 a4_1 (IntKind.u16.wrap (wrap64 (49152 + (Int.tmod (wrap64 (a5)) 16384))))).bind fun bt241 => (if t222 = true then ((bank_Where.f k t223 t224 t225 t226 t227 t228 a4_0 a4_1 (IntKind.u16.wrap (Int.tmod (wrap64 ((wrap64 (a5)) + 2048)) 8192))).bind fun bt244 => (if (bt232.1 == bt244.1 && (bt232.2 == bt244.2)) = true then ((bank_Where.f k t223 t224 t225 t226 t227 t228 a4_0 a4_1 (IntKind.u16.wrap (wrap64 (8192 + (Int.tmod (wrap64 ((wrap64 (a5)) + 16)) 8192))))).bind fun bt246 => (if (bt235.1 == bt246.1 && (bt235.2 == bt246.2)) = true then ((bank_Where.f k t223 t224 t225 t226 t227 t228 a4_0 a4_1 (IntKind.u16.wrap (wrap64 (32768 + (Int.tmod (wrap64 ((wrap64 (a5)) + (shl .i64 256 (Int.tmod a0 7)))) 16384))))).bind fun bt248 => (if (bt238.1 == bt248.1 && (bt238.2 == bt248.2)) = true then ((bank_Where.f k t223 t224 t225 t226 t227 t228 a4_0 a4_1 (IntKind.u16.wrap (wrap64 (49152 + (Int.tmod (wrap64 ((wrap64 (a5)) + (shl .i64 256 (Int.tmod a0 7)))) 16384))))).bind fun bt250 => (if (bt241.1 == bt250.1 && (bt241.2 == bt250.2)) = true then (if bt232.1 = 1 then (if bt235.1 = 2 then (some (bt241.1 == 5)) else (none)) else (none)) else (none))) else (none))) else (none))) else (none))) else (none)))))) else (none)) = some r := H
  have A8 := Aside0.mk A80
  clear A80
  obtain ⟨ji9, hji9⟩ : ∃ j_ : Int, (Int.tmod a0 7) = j_ := ⟨_, rfl⟩
  replace H : (if 0 ≤ (ji9) then ((bank_Where.f k t223 t224 t225 t226 t227 t228 a4_0 a4_1 (IntKind.u16.wrap (Int.tmod (wrap64 (a5)) 8192))).bind fun bt232 => ((bank_Where.f k t223 t224 t225 t226 t227 t228 a4_0 a4_1 (IntKind.u16.wrap (wrap64 (8192 + (Int.tmod (wrap64 (a5)) 8192))))).bind fun bt235 => ((bank_Where.f k t223 t224 t225 t226 t227 t228 a4_0 a4_1 (IntKind.u16.wrap (wrap64 (32768 + (Int.tmod (wrap64 (a5)) 16384))))).bind fun bt238 => ((bank_Where.f k t223 t224 t225 t226 t227 t228 a4_0 a4_1 (IntKind.u16.wrap (wrap64 (49152 + (Int.tmod (wrap64 (a5)) 16384))))).bind fun bt241 => (if t222 = true then ((bank_Where.f k t223 t224 t225 t226 t227 t228 a4_0 a4_1 (IntKind.u16.wrap (Int.tmod (wrap64 ((wrap64 (a5)) + 2048)) 8192))).bind fun bt244 => (if (bt232.1 == bt244.1 && (bt232.2 == bt244.2)) = true then ((bank_Where.f k t223 t224 t225 t226 t227 t228 a4_0 a4_1 (IntKind.u16.wrap (wrap64 (8192 + (Int.tmod (wrap64 ((wrap64 (a5)) + 16)) 8192))))).bind fun bt246 => (if (bt235.1 == bt246.1 && (bt235.2 == bt246.2)) = true then ((bank_Where.f k t223 t224 t225 t226 t227 t228 a4_0 a4_1 (IntKind.u16.wrap (wrap64 (32768 + (Int.tmod (wrap64 ((wrap64 (a5)) + (shl .i64 256 (ji9)))) 16384))))).bind fun bt248 => (if (bt238.1 == bt248.1 && (bt238.2 == bt248.2)) = true then ((bank_Where.f k t223 t224 t225 t226 t227 t228 a4_0 a4_1 (IntKind.u16.wrap (wrap64 (49152 + (Int.tmod (wrap64 ((wrap64 (a5)) + (shl .i64 256 (ji9)))) 16384))))).bind fun bt250 => (if (bt241.1 == bt250.1 && (bt241.2 == bt250.2)) = true then (if bt232.1 = 1 then (if bt235.1 = 2 then (some (bt241.1 == 5)) else (none)) else (none)) else (none))) else (none))) else (none))) else (none))) else (none)))))) else (none)) = some r := by first | (rw [hji9] at H; exact H) | (simp only [hji9] at H ⊢; exact H)
  (try rw [hji9] at A7)
  (try rw [hji9] at A8)
  by_cases c10 : 0 ≤ (ji9)
  · rw [if_pos c10] at H
    have c10b0 := eq_true c10
    have c10b1 : decide (0 ≤ (ji9)) = true := decide_eq_true c10
    clear c10
    obtain ⟨ji11, hji11⟩ : ∃ j_ : Int, (shl .i64 256 (ji9)) = j_ := ⟨_, rfl⟩
    replace H : ((bank_Where.f k t223 t224 t225 t226 t227 t228 a4_0 a4_1 (IntKind.u16.wrap (Int.tmod (wrap64 (a5)) 8192))).bind fun bt232 => ((bank_Where.f k t223 t224 t225 t226 t227 t228 a4_0 a4_1 (IntKind.u16.wrap (wrap64 (8192 + (Int.tmod (wrap64 (a5)) 8192))))).bind fun bt235 => ((bank_Where.f k t223 t224 t225 t226 t227 t228 a4_0 a4_1 (IntKind.u16.wrap (wrap64 (32768 + (Int.tmod (wrap64 (a5)) 16384))))).bind fun bt238 => ((bank_Where.f k t223 t224 t225 t226 t227 t228 a4_0 a4_1 (IntKind.u16.wrap (wrap64 (49152 + (Int.tmod (wrap64 (a5)) 16384))))).bind fun bt241 => (if t222 = true then ((bank_Where.f k t223 t224 t225 t226 t227 t228 a4_0 a4_1 (IntKind.u16.wrap (Int.tmod (wrap64 ((wrap64 (a5)) + 2048)) 8192))).bind fun bt244 => (if (bt232.1 == bt244.1 && (bt232.2 == bt244.2)) = true then ((bank_Where.f k t223 t224 t225 t226 t227 t228 a4_0 a4_1 (IntKind.u16.wrap (wrap64 (8192 + (Int.tmod (wrap64 ((wrap64 (a5)) + 16)) 8192))))).bind fun bt246 => (if (bt235.1 == bt246.1 && (bt235.2 == bt246.2)) = true then ((bank_Where.f k t223 t224 t225 t226 t227 t228 a4_0 a4_1 (IntKind.u16.wrap (wrap64 (32768 + (Int.tmod (wrap64 ((wrap64 (a5)) + (ji11))) 16384))))).bind fun bt248 => (if (bt238.1 == bt248.1 && (bt238.2 == bt248.2)) = true then ((bank_Where.f k t223 t224 t225 t226 t227 t228 a4_0 a4_1 (IntKind.u16.wrap (wrap64 (49152 + (Int.tmod (wrap64 ((wrap64 (a5)) + (ji11))) 16384))))).bind fun bt250 => (if (bt241.1 == bt250.1 && (bt241.2 == bt250.2)) = true then (if bt232.1 = 1 then (if bt235.1 = 2 then (some (bt241.1 == 5)) else (none)) else (none)) else (none))) else (none))) else (none))) else (none))) else (none)))))) = some r := by first | (rw [hji11] at H; exact H) | (simp only [hji11] at H ⊢; exact H)
    (try rw [hji11] at A7)
    (try rw [hji11] at A8)
    have hji11_ : (IntKind.i64.wrap (256 * 2 ^ min (ji9).toNat 64)) = ji11 := hji11
    have hji11z : (ji9) ≤ 64 → (IntKind.i64.wrap (256 * 2 ^ (ji9).toNat)) = ji11 := shl_small hji11
    have hji11y : (wrap64 (256 * 2 ^ min (ji9).toNat 64)) = ji11 := (i64_w _).symm.trans hji11_
    have hji11x : (ji9) ≤ 64 → (wrap64 (256 * 2 ^ (ji9).toNat)) = ji11 := fun h_ => (i64_w _).symm.trans (hji11z h_)
    replace H := Option.bind_eq_some_iff.mp H
    obtain ⟨⟨t232, t233⟩, A120, H⟩ := H
    replace H : ((bank_Where.f k t223 t224 t225 t226 t227 t228 a4_0 a4_1 (IntKind.u16.wrap (wrap64 (8192 + (Int.tmod (wrap64 (a5)) 8192))))).bind fun bt235 => ((bank_Where.f k t223 t224 t225 t226 t227 t228 a4_0 a4_1 (IntKind.u16.wrap (wrap64 (32768 + (Int.tmod (wrap64 (a5)) 16384))))).bind fun bt238 => ((bank_Where.f k t223 t224 t225 t226 t227 t228 a4_0 a4_1 (IntKind.u16.wrap (wrap64 (49152 + (Int.tmod (wrap64 (a5)) 16384))))).bind fun bt241 => (if t222 = true then ((bank_Where.f k t223 t224 t225 t226 t227 t228 a4_0 a4_1 (IntKind.u16.wrap (Int.tmod (wrap64 ((wrap64 (a5)) + 2048)) 8192))).bind fun bt244 => (if (t232 == bt244.1 && (t233 == bt244.2)) = true then ((bank_Where.f k t223 t224 t225 t226 t227 t228 a4_0 a4_1 (IntKind.u16.wrap (wrap64 (8192 + (Int.tmod (wrap64 ((wrap64 (a5)) + 16)) 8192))))).bind fun bt246 => (if (bt235.1 == bt246.1 && (bt235.2 == bt246.2)) = true then ((bank_Where.f k t223 t224 t225 t226 t227 t228 a4_0 a4_1 (IntKind.u16.wrap (wrap64 (32768 + (Int.tmod (wrap64 ((wrap64 (a5)) + (ji11))) 16384))))).bind fun bt248 => (if (bt238.1 == bt248.1 && (bt238.2 == bt248.2)) = true then ((bank_Where.f k t223 t224 t225 t226 t227 t228 a4_0 a4_1 (IntKind.u16.wrap (wrap64 (49152 + (Int.tmod (wrap64 ((wrap64 (a5)) + (ji11))) 16384))))).bind fun bt250 => (if (bt241.1 == bt250.1 && (bt241.2 == bt250.2)) = true then (if t232 = 1 then (if bt235.1 = 2 then (some (bt241.1 == 5)) else (none)) else (none)) else (none))) else (none))) else (none))) else (none))) else (none))))) = some r := H
    have A12 := Aside0.mk A120
    clear A120
    replace H := Option.bind_eq_some_iff.mp H
    obtain ⟨⟨t235, t236⟩, A130, H⟩ := H
    replace H : ((bank_Where.f k t223 t224 t225 t226 t227 t228 a4_0 a4_1 (IntKind.u16.wrap (wrap64 (32768 + (Int.tmod (wrap64 (a5)) 16384))))).bind fun bt238 => ((bank_Where.f k t223 t224 t225 t226 t227 t228 a4_0 a4_1 (IntKind.u16.wrap (wrap64 (49152 + (Int.tmod (wrap64 (a5)) 16384))))).bind fun bt241 => (if t222 = true then ((bank_Where.f k t223 t224 t225 t226 t227 t228 a4_0 a4_1 (IntKind.u16.wrap (Int.tmod (wrap64 ((wrap64 (a5)) + 2048)) 8192))).bind fun bt244 => (if (t232 == bt244.1 && (t233 == bt244.2)) = true then ((bank_Where.f k t223 t224 t225 t226 t227 t228 a4_0 a4_1 (IntKind.u16.wrap (wrap64 (8192 + (Int.tmod (wrap64 ((wrap64 (a5)) + 16)) 8192))))).bind fun bt246 => (if (t235 == bt246.1 && (t236 == bt246.2)) = true then ((bank_Where.f k t223 t224 t225 t226 t227 t228 a4_0 a4_1 (IntKind.u16.wrap (wrap64 (32768 + (Int.tmod (wrap64 ((wrap64 (a5)) + (ji11))) 16384))))).bind fun bt248 => (if (bt238.1 == bt248.1 && (bt238.2 == bt248.2)) = true then ((bank_Where.f k t223 t224 t225 t226 t227 t228 a4_0 a4_1 (IntKind.u16.wrap (wrap64 (49152 + (Int.tmod (wrap64 ((wrap64 (a5)) + (ji11))) 16384))))).bind fun bt250 => (if (bt241.1 == bt250.1 && (bt241.2 == bt250.2)) = true then (if t232 = 1 then (if t235 = 2 then (some (bt241.1 == 5)) else (none)) else (none)) else (none))) else (none))) else (none))) else (none))) else (none)))) = some r := H
    have A13 := Aside0.mk A130
    clear A130
    replace H := Option.bind_eq_some_iff.mp H
    obtain ⟨⟨t238, t239⟩, A140, H⟩ := H
    replace H : ((bank_Where.f k t223 t224 t225 t226 t227 t228 a4_0 a4_1 (IntKind.u16.wrap (wrap64 (49152 + (Int.tmod (wrap64 (a5)) 16384))))).bind fun bt241 => (if t222 = true then ((bank_Where.f k t223 t224 t225 t226 t227 t228 a4_0 a4_1 (IntKind.u16.wrap (Int.tmod (wrap64 ((wrap64 (a5)) + 2048)) 8192))).bind fun bt244 => (if (t232 == bt244.1 && (t233 == bt244.2)) = true then ((bank_Where.f k t223 t224 t225 t226 t227 t228 a4_0 a4_1 (IntKind.u16.wrap (wrap64 (8192 + (Int.tmod (wrap64 ((wrap64 (a5)) + 16)) 8192))))).bind fun bt246 => (if (t235 == bt246.1 && (t236 == bt246.2)) = true then ((bank_Where.f k t223 t224 t225 t226 t227 t228 a4_0 a4_1 (IntKind.u16.wrap (wrap64 (32768 + (Int.tmod (wrap64 ((wrap64 (a5)) + (ji11))) 16384))))).bind fun bt248 => (if (t238 == bt248.1 && (t239 == bt248.2)) = true then ((bank_Where.f k t223 t224 t225 t226 t227 t228 a4_0 a4_1 (IntKind.u16.wrap (wrap64 (49152 + (Int.tmod (wrap64 ((wrap64 (a5)) + (ji11))) 16384))))).bind fun bt250 => (if (bt241.1 == bt250.1 && (bt241.2 == bt250.2)) = true then (if t232 = 1 then (if t235 = 2 then (some (bt241.1 == 5)) else (none)) else (none)) else (none))) else (none))) else (none))) else (none))) else (none))) = some r := H
    have A14 := Aside0.mk A140
    clear A140
    replace H := Option.bind_eq_some_iff.mp H
    obtain ⟨⟨t241, t242⟩, A150, H⟩ := H
    replace H : (if t222 = true then ((bank_Where.f k t223 t224 t225 t226 t227 t228 a4_0 a4_1 (IntKind.u16.wrap (Int.tmod (wrap64 ((wrap64 (a5)) + 2048)) 8192))).bind fun bt244 => (if (t232 == bt244.1 && (t233 == bt244.2)) = true then ((bank_Where.f k t223 t224 t225 t226 t227 t228 a4_0 a4_1 (IntKind.u16.wrap (wrap64 (8192 + (Int.tmod (wrap64 ((wrap64 (a5)) + 16)) 8192))))).bind fun bt246 => (if (t235 == bt246.1 && (t236 == bt246.2)) = true then ((bank_Where.f k t223 t224 t225 t226 t227 t228 a4_0 a4_1 (IntKind.u16.wrap (wrap64 (32768 + (Int.tmod (wrap64 ((wrap64 (a5)) + (ji11))) 16384))))).bind fun bt248 => (if (t238 == bt248.1 && (t239 == bt248.2)) = true then ((bank_Where.f k t223 t224 t225 t226 t227 t228 a4_0 a4_1 (IntKind.u16.wrap (wrap64 (49152 + (Int.tmod (wrap64 ((wrap64 (a5)) + (ji11))) 16384))))).bind fun bt250 => (if (t241 == bt250.1 && (t242 == bt250.2)) = true then (if t232 = 1 then (if t235 = 2 then (some (t241 == 5)) else (none)) else (none)) else (none))) else (none))) else (none))) else (none))) else (none)) = some r := H
    have A15 := Aside0.mk A150
    clear A150
    by_cases c16 : t222 = true
    · subst c16
      have H1 : ((bank_Where.f k t223 t224 t225 t226 t227 t228 a4_0 a4_1 (IntKind.u16.wrap (Int.tmod (wrap64 ((wrap64 (a5)) + 2048)) 8192))).bind fun bt244 => (if (t232 == bt244.1 && (t233 == bt244.2)) = true then ((bank_Where.f k t223 t224 t225 t226 t227 t228 a4_0 a4_1 (IntKind.u16.wrap (wrap64 (8192 + (Int.tmod (wrap64 ((wrap64 (a5)) + 16)) 8192))))).bind fun bt246 => (if (t235 == bt246.1 && (t236 == bt246.2)) = true then ((bank_Where.f k t223 t224 t225 t226 t227 t228 a4_0 a4_1 (IntKind.u16.wrap (wrap64 (32768 + (Int.tmod (wrap64 ((wrap64 (a5)) + (ji11))) 16384))))).bind fun bt248 => (if (t238 == bt248.1 && (t239 == bt248.2)) = true then ((bank_Where.f k t223 t224 t225 t226 t227 t228 a4_0 a4_1 (IntKind.u16.wrap (wrap64 (49152 + (Int.tmod (wrap64 ((wrap64 (a5)) + (ji11))) 16384))))).bind fun bt250 => (if (t241 == bt250.1 && (t242 == bt250.2)) = true then (if t232 = 1 then (if t235 = 2 then (some (t241 == 5)) else (none)) else (none)) else (none))) else (none))) else (none))) else (none))) = some r := by rw [if_pos rfl] at H; exact H
      clear H
      have H := H1
      clear H1
      replace H := Option.bind_eq_some_iff.mp H
      obtain ⟨⟨t244, t245⟩, A170, H⟩ := H
      replace H : (if (t232 == t244 && (t233 == t245)) = true then ((bank_Where.f k t223 t224 t225 t226 t227 t228 a4_0 a4_1 (IntKind.u16.wrap (wrap64 (8192 + (Int.tmod (wrap64 ((wrap64 (a5)) + 16)) 8192))))).bind fun bt246 => (if (t235 == bt246.1 && (t236 == bt246.2)) = true then ((bank_Where.f k t223 t224 t225 t226 t227 t228 a4_0 a4_1 (IntKind.u16.wrap (wrap64 (32768 + (Int.tmod (wrap64 ((wrap64 (a5)) + (ji11))) 16384))))).bind fun bt248 => (if (t238 == bt248.1 && (t239 == bt248.2)) = true then ((bank_Where.f k t223 t224 t225 t226 t227 t228 a4_0 a4_1 (IntKind.u16.wrap (wrap64 (49152 + (Int.tmod (wrap64 ((wrap64 (a5)) + (ji11))) 16384))))).bind fun bt250 => (if (t241 == bt250.1 && (t242 == bt250.2)) = true then (if t232 = 1 then (if t235 = 2 then (some (t241 == 5)) else (none)) else (none)) else (none))) else (none))) else (none))) else (none)) = some r := H
      have A17 := Aside0.mk A170
      clear A170
      by_cases c18 : (t232 == t244 && (t233 == t245)) = true
      · rw [if_pos c18] at H
        have c18b0 : (t232 == t244 && (t233 == t245)) = true := c18
        (try (have c18b1 : decide (t232 = t244 && (t233 == t245)) = true := by simpa using c18))
        (try (have c18b2 : (t232 == t244 && (t233 == t245)) = true := by simpa using c18))
        clear c18
        replace H := Option.bind_eq_some_iff.mp H
        obtain ⟨⟨t246, t247⟩, A190, H⟩ := H
        replace H : (if (t235 == t246 && (t236 == t247)) = true then ((bank_Where.f k t223 t224 t225 t226 t227 t228 a4_0 a4_1 (IntKind.u16.wrap (wrap64 (32768 + (Int.tmod (wrap64 ((wrap64 (a5)) + (ji11))) 16384))))).bind fun bt248 => (if (t238 == bt248.1 && (t239 == bt248.2)) = true then ((bank_Where.f k t223 t224 t225 t226 t227 t228 a4_0 a4_1 (IntKind.u16.wrap (wrap64 (49152 + (Int.tmod (wrap64 ((wrap64 (a5)) + (ji11))) 16384))))).bind fun bt250 => (if (t241 == bt250.1 && (t242 == bt250.2)) = true then (if t232 = 1 then (if t235 = 2 then (some (t241 == 5)) else (none)) else (none)) else (none))) else (none))) else (none)) = some r := H
        have A19 := Aside0.mk A190
        clear A190
        by_cases c20 : (t235 == t246 && (t236 == t247)) = true
        · rw [if_pos c20] at H
          have c20b0 : (t235 == t246 && (t236 == t247)) = true := c20
          (try (have c20b1 : decide (t235 = t246 && (t236 == t247)) = true := by simpa using c20))
          (try (have c20b2 : (t235 == t246 && (t236 == t247)) = true := by simpa using c20))
          clear c20
          replace H := Option.bind_eq_some_iff.mp H
          obtain ⟨⟨t248, t249⟩, A210, H⟩ := H
          replace H : (if (t238 == t248 && (t239 == t249)) = true then ((bank_Where.f k t223 t224 t225 t226 t227 t228 a4_0 a4_1 (IntKind.u16.wrap (wrap64 (49152 + (Int.tmod (wrap64 ((wrap64 (a5)) + (ji11))) 16384))))).bind fun bt250 => (if (t241 == bt250.1 && (t242 == bt250.2)) = true then (if t232 = 1 then (if t235 = 2 then (some (t241 == 5)) else (none)) else (none)) else (none))) else (none)) = some r := H
          have A21 := Aside0.mk A210
          clear A210
          by_cases c22 : (t238 == t248 && (t239 == t249)) = true
          · rw [if_pos c22] at H
            have c22b0 : (t238 == t248 && (t239 == t249)) = true := c22
            (try (have c22b1 : decide (t238 = t248 && (t239 == t249)) = true := by simpa using c22))
            (try (have c22b2 : (t238 == t248 && (t239 == t249)) = true := by simpa using c22))
            clear c22
            replace H := Option.bind_eq_some_iff.mp H
            obtain ⟨⟨t250, t251⟩, A230, H⟩ := H
            replace H : (if (t241 == t250 && (t242 == t251)) = true then (if t232 = 1 then (if t235 = 2 then (some (t241 == 5)) else (none)) else (none)) else (none)) = some r := H
            have A23 := Aside0.mk A230
            clear A230
            by_cases c24 : (t241 == t250 && (t242 == t251)) = true
            · rw [if_pos c24] at H
              have c24b0 : (t241 == t250 && (t242 == t251)) = true := c24
              (try (have c24b1 : decide (t241 = t250 && (t242 == t251)) = true := by simpa using c24))
              (try (have c24b2 : (t241 == t250 && (t242 == t251)) = true := by simpa using c24))
              clear c24
              by_cases c25 : t232 = 1
              · rw [if_pos c25] at H
                have c25b0 : (t232 == 1) = true := beq_iff_eq.mpr c25
                have c25b1 : (t232 != 1) = false := bne_eq_false_iff_eq.mpr c25
                clear c25
                by_cases c26 : t235 = 2
                · rw [if_pos c26] at H
                  have c26b0 : (t235 == 2) = true := beq_iff_eq.mpr c26
                  have c26b1 : (t235 != 2) = false := bne_eq_false_iff_eq.mpr c26
                  clear c26
                  obtain rfl := Option.some.inj H
                  go_enter Try.func7, Try.ntmps7
                  try go_wp2_with (first | ((with_reducible refine gate_dst (N := 10) rfl ?_); refine box_event ?hg (N := 10) ?hd (cs := #[.int .u8 a4_0, .int .u8 a4_1]) (t := 25) ?hr ?_; (case hd => rfl); (case hg => rfl); (case hr => first | (go_simp; done) | (go_simp; rfl)); intro gb221 hg w27 hbox hb; have n0_ := Aside0.mk (below_step (by repeat (first | (with_reducible first | exact HB.out | apply below_alloc | apply pw_below_drewN | apply below_drew1) | exact HB.out)) hb); have n1_ := Aside0.mk (hbox); have n2_ := Aside0.mk ((by rw [hg]; exact (below_size (by repeat (first | (with_reducible first | exact HB.out | apply below_alloc | apply pw_below_drewN | apply below_drew1) | exact HB.out))) : w.heap.size ≤ gb221)); have n3_ := Aside0.mk ((by rw [hg]; exact (below_size (by repeat (first | (with_reducible first | exact HB.out | apply below_alloc | apply pw_below_drewN | apply below_drew1) | exact HB.out))) : w.heap.size ≤ gb221)); clear HB; have HB := n0_; have BK221 := n1_; have GW221 := n2_; have GE221 := n3_; clear n0_ n1_ n2_ n3_; clear hb hbox hg) | ((with_reducible refine gate_callee (f := 8) rfl ?_); refine goesL_ (some 21) rfl rfl Try.func8 (by kernel_rfl) rfl #[] rfl (by (try simp only [List.map_toArray, List.map_cons, List.map_nil]); first | done | rfl | (simp only [List.length_drop, List.length_take]; rfl)) ?_; (with_reducible refine (keepsakelaw20_awake.calls k  true _ A7.out).mono ?_); rintro e w28 ⟨rfl, hb⟩; refine ⟨_, rfl, ?_⟩; have n0_ := Aside0.mk (blk_below (g := gb221) (o := .cells #[.int .u8 a4_0, .int .u8 a4_1] 25 (0, 0)) (by (with_reducible repeat (first | refine blk_drewN ?_ _ | refine blk_drew ?_ | refine blk_alloc ?_ _)); exact BK221.out) hb); have n1_ := Aside0.mk (below_step (by repeat (first | (with_reducible first | exact HB.out | apply below_alloc | apply pw_below_drewN | apply below_drew1 | refine below_set ?_ GE221.out) | exact HB.out)) hb); clear BK221; clear HB; have BK221 := n0_; have HB := n1_; clear n0_ n1_; (try clear hb); (try clear hb2); (try clear hk); (try clear hi)) | ((with_reducible refine gate_callee (f := 15) rfl ?_); refine goesL_ (some 26) rfl rfl Try.func15 (by kernel_rfl) rfl #[.int .u8 a0, .int .u8 a1, .int .u8 a2, .int .u8 a3] rfl (by (try simp only [List.map_toArray, List.map_cons, List.map_nil]); first | done | rfl | (simp only [List.length_drop, List.length_take]; rfl)) ?_; (with_reducible refine (keepsakelaw20_cart.calls a0 a1 a2 a3 t223 t224 t225 t226 t227 t228 _ A8.out).mono ?_); rintro e w29 ⟨v229, rfl, ho0, hb⟩; refine ⟨_, rfl, ?_⟩; have n0_ := Aside0.mk (Kd.R_lower ho0 (below_size (by repeat (first | (with_reducible first | exact HB.out | apply below_alloc | apply pw_below_drewN | apply below_drew1 | refine below_set ?_ GE221.out) | exact HB.out)))); have n1_ := Aside0.mk (blk_below (g := gb221) (o := .cells #[.int .u8 a4_0, .int .u8 a4_1] 25 (0, 0)) (by (with_reducible repeat (first | refine blk_drewN ?_ _ | refine blk_drew ?_ | refine blk_alloc ?_ _)); exact BK221.out) hb); have n2_ := Aside0.mk (below_step (by repeat (first | (with_reducible first | exact HB.out | apply below_alloc | apply pw_below_drewN | apply below_drew1 | refine below_set ?_ GE221.out) | exact HB.out)) hb); clear BK221; clear HB; have HO230 := n0_; have BK221 := n1_; have HB := n2_; clear n0_ n1_ n2_; (try clear hb); (try clear hb2); (try clear hk); (try clear hi); (try clear ho0)) | ((with_reducible refine gate_dst (N := 14) rfl ?_); refine box_event ?hg (N := 14) ?hd (cs := #[.int .i64 0, .int .i64 0, .int .i64 0, .int .i64 0, .int .i64 0, .slice none 0 0]) (t := 30) ?hr ?_; (case hd => rfl); (case hg => rfl); (case hr => first | (go_simp; done) | (go_simp; rfl)); intro gb231 hg w30 hbox hb; have n0_ := Aside0.mk (Kd.R_below (by (with_reducible repeat (first | apply Kd.R_alloc | apply Kd.R_drewN | apply Kd.R_drew)); exact HO230.out) hb); have n1_ := Aside0.mk (blk_below (g := gb221) (o := .cells #[.int .u8 a4_0, .int .u8 a4_1] 25 (0, 0)) (by (with_reducible repeat (first | refine blk_drewN ?_ _ | refine blk_drew ?_ | refine blk_alloc ?_ _)); exact BK221.out) hb); have n2_ := Aside0.mk (below_step (by repeat (first | (with_reducible first | exact HB.out | apply below_alloc | apply pw_below_drewN | apply below_drew1 | refine below_set ?_ GE221.out) | exact HB.out)) hb); have n3_ := Aside0.mk (hbox); have n4_ := Aside0.mk ((by rw [hg]; exact (below_size (by repeat (first | (with_reducible first | exact HB.out | apply below_alloc | apply pw_below_drewN | apply below_drew1 | refine below_set ?_ GE221.out) | exact HB.out))) : w.heap.size ≤ gb231)); have n5_ := Aside0.mk ((by rw [hg]; exact (below_size (by repeat (first | (with_reducible first | exact HB.out | apply below_alloc | apply pw_below_drewN | apply below_drew1 | refine below_set ?_ GE221.out) | exact HB.out))) : w.heap.size ≤ gb231)); have n6_ := Aside0.mk ((by rw [hg]; exact Nat.ne_of_lt (blk_lt (g := gb221) (o := .cells #[.int .u8 a4_0, .int .u8 a4_1] 25 (0, 0)) (by (with_reducible repeat (first | refine blk_drewN ?_ _ | refine blk_drew ?_ | refine blk_alloc ?_ _)); exact BK221.out)) : gb221 ≠ gb231)); have n7_ := Aside0.mk ((by rw [hg]; exact Nat.ne_of_gt (blk_lt (g := gb221) (o := .cells #[.int .u8 a4_0, .int .u8 a4_1] 25 (0, 0)) (by (with_reducible repeat (first | refine blk_drewN ?_ _ | refine blk_drew ?_ | refine blk_alloc ?_ _)); exact BK221.out)) : gb231 ≠ gb221)); clear HO230; clear BK221; clear HB; have HO230 := n0_; have BK221 := n1_; have HB := n2_; have BK231 := n3_; have GW231 := n4_; have GE231 := n5_; have NB221_231 := n6_; have NB231_221 := n7_; clear n0_ n1_ n2_ n3_ n4_ n5_ n6_ n7_; clear hb hbox hg; have hnb31 := NB231_221.out; have hnc31 := NB221_231.out; have hcz32_0 : w30.cell? ⟨gb231, 0, none⟩ = some (.int .i64 0) := (blk_cell BK231.out 0).trans rfl; have hcz32_1 : w30.cell? ⟨gb231, 1, none⟩ = some (.int .i64 0) := (blk_cell BK231.out 1).trans rfl; have hcz32_2 : w30.cell? ⟨gb231, 2, none⟩ = some (.int .i64 0) := (blk_cell BK231.out 2).trans rfl; have hcz32_3 : w30.cell? ⟨gb231, 3, none⟩ = some (.int .i64 0) := (blk_cell BK231.out 3).trans rfl; have hcz32_4 : w30.cell? ⟨gb231, 4, none⟩ = some (.int .i64 0) := (blk_cell BK231.out 4).trans rfl; have hcz32_5 : w30.cell? ⟨gb231, 5, none⟩ = some (.slice none 0 0) := (blk_cell BK231.out 5).trans rfl; have hfz32_0 := blk_frozen BK231.out 0; have hfz32_1 := blk_frozen BK231.out 1; have hfz32_2 := blk_frozen BK231.out 2; have hfz32_3 := blk_frozen BK231.out 3; have hfz32_4 := blk_frozen BK231.out 4; have hfz32_5 := blk_frozen BK231.out 5; obtain ⟨Ao33, co33, eo33⟩ := Kd.R_slice HO230.out; subst eo33; have hcz34_0 : w30.cell? ⟨gb221, 0, none⟩ = some (.int .u8 a4_0) := (blk_cell BK221.out 0).trans rfl; have hcz34_1 : w30.cell? ⟨gb221, 1, none⟩ = some (.int .u8 a4_1) := (blk_cell BK221.out 1).trans rfl; have hfz34_0 := blk_frozen BK221.out 0; have hfz34_1 := blk_frozen BK221.out 1) | ((with_reducible refine gate_callee (f := 13) rfl ?_); refine goesL_ (some 37) rfl rfl Try.func13 (by kernel_rfl) rfl #[.agg #[.int .i64 t223, .int .i64 t224, .int .i64 t225, .int .i64 t226, .int .i64 t227, .slice Ao33 t228.length co33], .agg #[.int .u8 a4_0, .int .u8 a4_1], .int .u16 (IntKind.u16.wrap (Int.tmod (wrap64 (a5)) 8192))] rfl (by (try simp only [List.map_toArray, List.map_cons, List.map_nil]); first | done | rfl | (simp only [List.length_drop, List.length_take]; rfl)) ?_; (with_reducible refine (bank_Where.calls k t223 t224 t225 t226 t227 _ _ t228 a4_0 a4_1 (IntKind.u16.wrap (Int.tmod (wrap64 (a5)) 8192)) t232 t233 _ ?side1 ?side2 A12.out).mono ?_); (case side1 => refine (Kd.R_reads' (e := 5) (base := w.heap.size) (ok := fun k_ => True) (n := t228.length) (c := co33) ?_).2.2; exact (by (with_reducible repeat (first | apply Kd.R_alloc | apply Kd.R_drewN | apply Kd.R_drew)); exact (Kd.R_mono (Kd.R_far (p := ⟨gb231, 5, none⟩) (Kd.R_far (p := ⟨gb231, 4, none⟩) (Kd.R_far (p := ⟨gb231, 3, none⟩) (Kd.R_far (p := ⟨gb231, 2, none⟩) (Kd.R_far (p := ⟨gb231, 1, none⟩) (Kd.R_far (p := ⟨gb231, 0, none⟩) (Kd.R_types HO230.out BK231.out (by decide)) (fun _ hk => hk.2) (.int .i64 t223)) (fun _ hk => hk.2) (.int .i64 t224)) (fun _ hk => hk.2) (.int .i64 t225)) (fun _ hk => hk.2) (.int .i64 t226)) (fun _ hk => hk.2) (.int .i64 t227)) (fun _ hk => hk.2) (.slice Ao33 t228.length co33)) (fun _ h_ => h_.1)))); (case side2 => exact (Kd.R_reads' HO230.out).2.1); rintro e w35 ⟨rfl, hb⟩; refine ⟨_, rfl, ?_⟩; have n0_ := Aside0.mk (Kd.R_below (by (with_reducible repeat (first | apply Kd.R_alloc | apply Kd.R_drewN | apply Kd.R_drew)); exact (Kd.R_mono (Kd.R_far (p := ⟨gb231, 5, none⟩) (Kd.R_far (p := ⟨gb231, 4, none⟩) (Kd.R_far (p := ⟨gb231, 3, none⟩) (Kd.R_far (p := ⟨gb231, 2, none⟩) (Kd.R_far (p := ⟨gb231, 1, none⟩) (Kd.R_far (p := ⟨gb231, 0, none⟩) (Kd.R_types HO230.out BK231.out (by decide)) (fun _ hk => hk.2) (.int .i64 t223)) (fun _ hk => hk.2) (.int .i64 t224)) (fun _ hk => hk.2) (.int .i64 t225)) (fun _ hk => hk.2) (.int .i64 t226)) (fun _ hk => hk.2) (.int .i64 t227)) (fun _ hk => hk.2) (.slice Ao33 t228.length co33)) (fun _ h_ => h_.1))) hb); have n1_ := Aside0.mk (blk_below (g := gb221) (o := .cells #[.int .u8 a4_0, .int .u8 a4_1] 25 (0, 0)) (by (with_reducible repeat (first | refine blk_drewN ?_ _ | refine blk_drew ?_ | refine blk_alloc ?_ _)); refine blk_far ?_ NB221_231.out _; (with_reducible repeat (first | refine blk_drewN ?_ _ | refine blk_drew ?_ | refine blk_alloc ?_ _)); refine blk_far ?_ NB221_231.out _; (with_reducible repeat (first | refine blk_drewN ?_ _ | refine blk_drew ?_ | refine blk_alloc ?_ _)); refine blk_far ?_ NB221_231.out _; (with_reducible repeat (first | refine blk_drewN ?_ _ | refine blk_drew ?_ | refine blk_alloc ?_ _)); refine blk_far ?_ NB221_231.out _; (with_reducible repeat (first | refine blk_drewN ?_ _ | refine blk_drew ?_ | refine blk_alloc ?_ _)); refine blk_far ?_ NB221_231.out _; (with_reducible repeat (first | refine blk_drewN ?_ _ | refine blk_drew ?_ | refine blk_alloc ?_ _)); refine blk_far ?_ NB221_231.out _; (with_reducible repeat (first | refine blk_drewN ?_ _ | refine blk_drew ?_ | refine blk_alloc ?_ _)); exact BK221.out) hb); have n2_ := Aside0.mk (blk_below (g := gb231) (o := .cells #[.int .i64 t223, .int .i64 t224, .int .i64 t225, .int .i64 t226, .int .i64 t227, .slice Ao33 t228.length co33] 30 (0, 0)) (by (with_reducible repeat (first | refine blk_drewN ?_ _ | refine blk_drew ?_ | refine blk_alloc ?_ _)); refine blk_put (cs := #[.int .i64 t223, .int .i64 t224, .int .i64 t225, .int .i64 t226, .int .i64 t227, .slice none 0 0]) ?_ 5 _ rfl; (with_reducible repeat (first | refine blk_drewN ?_ _ | refine blk_drew ?_ | refine blk_alloc ?_ _)); refine blk_put (cs := #[.int .i64 t223, .int .i64 t224, .int .i64 t225, .int .i64 t226, .int .i64 0, .slice none 0 0]) ?_ 4 _ rfl; (with_reducible repeat (first | refine blk_drewN ?_ _ | refine blk_drew ?_ | refine blk_alloc ?_ _)); refine blk_put (cs := #[.int .i64 t223, .int .i64 t224, .int .i64 t225, .int .i64 0, .int .i64 0, .slice none 0 0]) ?_ 3 _ rfl; (with_reducible repeat (first | refine blk_drewN ?_ _ | refine blk_drew ?_ | refine blk_alloc ?_ _)); refine blk_put (cs := #[.int .i64 t223, .int .i64 t224, .int .i64 0, .int .i64 0, .int .i64 0, .slice none 0 0]) ?_ 2 _ rfl; (with_reducible repeat (first | refine blk_drewN ?_ _ | refine blk_drew ?_ | refine blk_alloc ?_ _)); refine blk_put (cs := #[.int .i64 t223, .int .i64 0, .int .i64 0, .int .i64 0, .int .i64 0, .slice none 0 0]) ?_ 1 _ rfl; (with_reducible repeat (first | refine blk_drewN ?_ _ | refine blk_drew ?_ | refine blk_alloc ?_ _)); refine blk_put (cs := #[.int .i64 0, .int .i64 0, .int .i64 0, .int .i64 0, .int .i64 0, .slice none 0 0]) ?_ 0 _ rfl; (with_reducible repeat (first | refine blk_drewN ?_ _ | refine blk_drew ?_ | refine blk_alloc ?_ _)); exact BK231.out) hb); have n3_ := Aside0.mk (below_step (by repeat (first | (with_reducible first | exact HB.out | apply below_alloc | apply pw_below_drewN | apply below_drew1 | refine below_set ?_ GE221.out | refine below_set ?_ GE231.out) | exact HB.out)) hb); clear HO230; clear BK221; clear BK231; clear HB; have HO230 := n0_; have BK221 := n1_; have BK231 := n2_; have HB := n3_; clear n0_ n1_ n2_ n3_; (try clear hb); (try clear hb2); (try clear hk); (try clear hi)) | ((with_reducible refine gate_dst (N := 17) rfl ?_); refine box_event ?hg (N := 17) ?hd (cs := #[.int .i64 0, .int .i64 0]) (t := 34) ?hr ?_; (case hd => rfl); (case hg => rfl); (case hr => first | (go_simp; done) | (go_simp; rfl)); intro gb234 hg w36 hbox hb; have n0_ := Aside0.mk (Kd.R_below (by (with_reducible repeat (first | apply Kd.R_alloc | apply Kd.R_drewN | apply Kd.R_drew)); exact HO230.out) hb); have n1_ := Aside0.mk (blk_below (g := gb221) (o := .cells #[.int .u8 a4_0, .int .u8 a4_1] 25 (0, 0)) (by (with_reducible repeat (first | refine blk_drewN ?_ _ | refine blk_drew ?_ | refine blk_alloc ?_ _)); exact BK221.out) hb); have n2_ := Aside0.mk (blk_below (g := gb231) (o := .cells #[.int .i64 t223, .int .i64 t224, .int .i64 t225, .int .i64 t226, .int .i64 t227, .slice Ao33 t228.length co33] 30 (0, 0)) (by (with_reducible repeat (first | refine blk_drewN ?_ _ | refine blk_drew ?_ | refine blk_alloc ?_ _)); exact BK231.out) hb); have n3_ := Aside0.mk (below_step (by repeat (first | (with_reducible first | exact HB.out | apply below_alloc | apply pw_below_drewN | apply below_drew1 | refine below_set ?_ GE221.out | refine below_set ?_ GE231.out) | exact HB.out)) hb); have n4_ := Aside0.mk (hbox); have n5_ := Aside0.mk ((by rw [hg]; exact (below_size (by repeat (first | (with_reducible first | exact HB.out | apply below_alloc | apply pw_below_drewN | apply below_drew1 | refine below_set ?_ GE221.out | refine below_set ?_ GE231.out) | exact HB.out))) : w.heap.size ≤ gb234)); have n6_ := Aside0.mk ((by rw [hg]; exact (below_size (by repeat (first | (with_reducible first | exact HB.out | apply below_alloc | apply pw_below_drewN | apply below_drew1 | refine below_set ?_ GE221.out | refine below_set ?_ GE231.out) | exact HB.out))) : w.heap.size ≤ gb234)); have n7_ := Aside0.mk ((by rw [hg]; exact Nat.ne_of_lt (blk_lt (g := gb221) (o := .cells #[.int .u8 a4_0, .int .u8 a4_1] 25 (0, 0)) (by (with_reducible repeat (first | refine blk_drewN ?_ _ | refine blk_drew ?_ | refine blk_alloc ?_ _)); exact BK221.out)) : gb221 ≠ gb234)); have n8_ := Aside0.mk ((by rw [hg]; exact Nat.ne_of_gt (blk_lt (g := gb221) (o := .cells #[.int .u8 a4_0, .int .u8 a4_1] 25 (0, 0)) (by (with_reducible repeat (first | refine blk_drewN ?_ _ | refine blk_drew ?_ | refine blk_alloc ?_ _)); exact BK221.out)) : gb234 ≠ gb221)); have n9_ := Aside0.mk ((by rw [hg]; exact Nat.ne_of_lt (blk_lt (g := gb231) (o := .cells #[.int .i64 t223, .int .i64 t224, .int .i64 t225, .int .i64 t226, .int .i64 t227, .slice Ao33 t228.length co33] 30 (0, 0)) (by (with_reducible repeat (first | refine blk_drewN ?_ _ | refine blk_drew ?_ | refine blk_alloc ?_ _)); exact BK231.out)) : gb231 ≠ gb234)); have n10_ := Aside0.mk ((by rw [hg]; exact Nat.ne_of_gt (blk_lt (g := gb231) (o := .cells #[.int .i64 t223, .int .i64 t224, .int .i64 t225, .int .i64 t226, .int .i64 t227, .slice Ao33 t228.length co33] 30 (0, 0)) (by (with_reducible repeat (first | refine blk_drewN ?_ _ | refine blk_drew ?_ | refine blk_alloc ?_ _)); exact BK231.out)) : gb234 ≠ gb231)); clear HO230; clear BK221; clear BK231; clear HB; have HO230 := n0_; have BK221 := n1_; have BK231 := n2_; have HB := n3_; have BK234 := n4_; have GW234 := n5_; have GE234 := n6_; have NB221_234 := n7_; have NB234_221 := n8_; have NB231_234 := n9_; have NB234_231 := n10_; clear n0_ n1_ n2_ n3_ n4_ n5_ n6_ n7_ n8_ n9_ n10_; clear hb hbox hg; have hnb37 := NB234_221.out; have hnc37 := NB221_234.out; have hnb38 := NB234_231.out; have hnc38 := NB231_234.out; have hcz39_0 : w36.cell? ⟨gb234, 0, none⟩ = some (.int .i64 0) := (blk_cell BK234.out 0).trans rfl; have hcz39_1 : w36.cell? ⟨gb234, 1, none⟩ = some (.int .i64 0) := (blk_cell BK234.out 1).trans rfl; have hfz39_0 := blk_frozen BK234.out 0; have hfz39_1 := blk_frozen BK234.out 1; have hcz40_0 : w36.cell? ⟨gb231, 0, none⟩ = some (.int .i64 t223) := (blk_cell BK231.out 0).trans rfl; have hcz40_1 : w36.cell? ⟨gb231, 1, none⟩ = some (.int .i64 t224) := (blk_cell BK231.out 1).trans rfl; have hcz40_2 : w36.cell? ⟨gb231, 2, none⟩ = some (.int .i64 t225) := (blk_cell BK231.out 2).trans rfl; have hcz40_3 : w36.cell? ⟨gb231, 3, none⟩ = some (.int .i64 t226) := (blk_cell BK231.out 3).trans rfl; have hcz40_4 : w36.cell? ⟨gb231, 4, none⟩ = some (.int .i64 t227) := (blk_cell BK231.out 4).trans rfl; have hcz40_5 : w36.cell? ⟨gb231, 5, none⟩ = some (.slice Ao33 t228.length co33) := (blk_cell BK231.out 5).trans rfl; have hfz40_0 := blk_frozen BK231.out 0; have hfz40_1 := blk_frozen BK231.out 1; have hfz40_2 := blk_frozen BK231.out 2; have hfz40_3 := blk_frozen BK231.out 3; have hfz40_4 := blk_frozen BK231.out 4; have hfz40_5 := blk_frozen BK231.out 5; have hcz41_0 : w36.cell? ⟨gb221, 0, none⟩ = some (.int .u8 a4_0) := (blk_cell BK221.out 0).trans rfl; have hcz41_1 : w36.cell? ⟨gb221, 1, none⟩ = some (.int .u8 a4_1) := (blk_cell BK221.out 1).trans rfl; have hfz41_0 := blk_frozen BK221.out 0; have hfz41_1 := blk_frozen BK221.out 1) | ((with_reducible refine gate_callee (f := 13) rfl ?_); refine goesL_ (some 44) rfl rfl Try.func13 (by kernel_rfl) rfl #[.agg #[.int .i64 t223, .int .i64 t224, .int .i64 t225, .int .i64 t226, .int .i64 t227, .slice Ao33 t228.length co33], .agg #[.int .u8 a4_0, .int .u8 a4_1], .int .u16 (IntKind.u16.wrap (wrap64 (8192 + (Int.tmod (wrap64 (a5)) 8192))))] rfl (by (try simp only [List.map_toArray, List.map_cons, List.map_nil]); first | done | rfl | (simp only [List.length_drop, List.length_take]; rfl)) ?_; (with_reducible refine (bank_Where.calls k t223 t224 t225 t226 t227 _ _ t228 a4_0 a4_1 (IntKind.u16.wrap (wrap64 (8192 + (Int.tmod (wrap64 (a5)) 8192)))) t235 t236 _ ?side1 ?side2 A13.out).mono ?_); (case side1 => refine (Kd.R_reads' (e := 5) (base := w.heap.size) (ok := fun k_ => True) (n := t228.length) (c := co33) ?_).2.2; exact (by (with_reducible repeat (first | apply Kd.R_alloc | apply Kd.R_drewN | apply Kd.R_drew)); exact (Kd.R_mono (Kd.R_far (p := ⟨gb234, 1, none⟩) (Kd.R_far (p := ⟨gb234, 0, none⟩) (Kd.R_types HO230.out BK234.out (by decide)) (fun _ hk => hk.2) (.int .i64 t232)) (fun _ hk => hk.2) (.int .i64 t233)) (fun _ h_ => h_.1)))); (case side2 => exact (Kd.R_reads' HO230.out).2.1); rintro e w42 ⟨rfl, hb⟩; refine ⟨_, rfl, ?_⟩; have n0_ := Aside0.mk (Kd.R_below (by (with_reducible repeat (first | apply Kd.R_alloc | apply Kd.R_drewN | apply Kd.R_drew)); exact (Kd.R_mono (Kd.R_far (p := ⟨gb234, 1, none⟩) (Kd.R_far (p := ⟨gb234, 0, none⟩) (Kd.R_types HO230.out BK234.out (by decide)) (fun _ hk => hk.2) (.int .i64 t232)) (fun _ hk => hk.2) (.int .i64 t233)) (fun _ h_ => h_.1))) hb); have n1_ := Aside0.mk (blk_below (g := gb221) (o := .cells #[.int .u8 a4_0, .int .u8 a4_1] 25 (0, 0)) (by (with_reducible repeat (first | refine blk_drewN ?_ _ | refine blk_drew ?_ | refine blk_alloc ?_ _)); refine blk_far ?_ NB221_234.out _; (with_reducible repeat (first | refine blk_drewN ?_ _ | refine blk_drew ?_ | refine blk_alloc ?_ _)); refine blk_far ?_ NB221_234.out _; (with_reducible repeat (first | refine blk_drewN ?_ _ | refine blk_drew ?_ | refine blk_alloc ?_ _)); exact BK221.out) hb); have n2_ := Aside0.mk (blk_below (g := gb231) (o := .cells #[.int .i64 t223, .int .i64 t224, .int .i64 t225, .int .i64 t226, .int .i64 t227, .slice Ao33 t228.length co33] 30 (0, 0)) (by (with_reducible repeat (first | refine blk_drewN ?_ _ | refine blk_drew ?_ | refine blk_alloc ?_ _)); refine blk_far ?_ NB231_234.out _; (with_reducible repeat (first | refine blk_drewN ?_ _ | refine blk_drew ?_ | refine blk_alloc ?_ _)); refine blk_far ?_ NB231_234.out _; (with_reducible repeat (first | refine blk_drewN ?_ _ | refine blk_drew ?_ | refine blk_alloc ?_ _)); exact BK231.out) hb); have n3_ := Aside0.mk (blk_below (g := gb234) (o := .cells #[.int .i64 t232, .int .i64 t233] 34 (0, 0)) (by (with_reducible repeat (first | refine blk_drewN ?_ _ | refine blk_drew ?_ | refine blk_alloc ?_ _)); refine blk_put (cs := #[.int .i64 t232, .int .i64 0]) ?_ 1 _ rfl; (with_reducible repeat (first | refine blk_drewN ?_ _ | refine blk_drew ?_ | refine blk_alloc ?_ _)); refine blk_put (cs := #[.int .i64 0, .int .i64 0]) ?_ 0 _ rfl; (with_reducible repeat (first | refine blk_drewN ?_ _ | refine blk_drew ?_ | refine blk_alloc ?_ _)); exact BK234.out) hb); have n4_ := Aside0.mk (below_step (by repeat (first | (with_reducible first | exact HB.out | apply below_alloc | apply pw_below_drewN | apply below_drew1 | refine below_set ?_ GE221.out | refine below_set ?_ GE231.out | refine below_set ?_ GE234.out) | exact HB.out)) hb); clear HO230; clear BK221; clear BK231; clear BK234; clear HB; have HO230 := n0_; have BK221 := n1_; have BK231 := n2_; have BK234 := n3_; have HB := n4_; clear n0_ n1_ n2_ n3_ n4_; (try clear hb); (try clear hb2); (try clear hk); (try clear hi)) | ((with_reducible refine gate_dst (N := 18) rfl ?_); refine box_event ?hg (N := 18) ?hd (cs := #[.int .i64 0, .int .i64 0]) (t := 34) ?hr ?_; (case hd => rfl); (case hg => rfl); (case hr => first | (go_simp; done) | (go_simp; rfl)); intro gb237 hg w43 hbox hb; have n0_ := Aside0.mk (Kd.R_below (by (with_reducible repeat (first | apply Kd.R_alloc | apply Kd.R_drewN | apply Kd.R_drew)); exact HO230.out) hb); have n1_ := Aside0.mk (blk_below (g := gb221) (o := .cells #[.int .u8 a4_0, .int .u8 a4_1] 25 (0, 0)) (by (with_reducible repeat (first | refine blk_drewN ?_ _ | refine blk_drew ?_ | refine blk_alloc ?_ _)); exact BK221.out) hb); have n2_ := Aside0.mk (blk_below (g := gb231) (o := .cells #[.int .i64 t223, .int .i64 t224, .int .i64 t225, .int .i64 t226, .int .i64 t227, .slice Ao33 t228.length co33] 30 (0, 0)) (by (with_reducible repeat (first | refine blk_drewN ?_ _ | refine blk_drew ?_ | refine blk_alloc ?_ _)); exact BK231.out) hb); have n3_ := Aside0.mk (blk_below (g := gb234) (o := .cells #[.int .i64 t232, .int .i64 t233] 34 (0, 0)) (by (with_reducible repeat (first | refine blk_drewN ?_ _ | refine blk_drew ?_ | refine blk_alloc ?_ _)); exact BK234.out) hb); have n4_ := Aside0.mk (below_step (by repeat (first | (with_reducible first | exact HB.out | apply below_alloc | apply pw_below_drewN | apply below_drew1 | refine below_set ?_ GE221.out | refine below_set ?_ GE231.out | refine below_set ?_ GE234.out) | exact HB.out)) hb); have n5_ := Aside0.mk (hbox); have n6_ := Aside0.mk ((by rw [hg]; exact (below_size (by repeat (first | (with_reducible first | exact HB.out | apply below_alloc | apply pw_below_drewN | apply below_drew1 | refine below_set ?_ GE221.out | refine below_set ?_ GE231.out | refine below_set ?_ GE234.out) | exact HB.out))) : w.heap.size ≤ gb237)); have n7_ := Aside0.mk ((by rw [hg]; exact (below_size (by repeat (first | (with_reducible first | exact HB.out | apply below_alloc | apply pw_below_drewN | apply below_drew1 | refine below_set ?_ GE221.out | refine below_set ?_ GE231.out | refine below_set ?_ GE234.out) | exact HB.out))) : w.heap.size ≤ gb237)); have n8_ := Aside0.mk ((by rw [hg]; exact Nat.ne_of_lt (blk_lt (g := gb221) (o := .cells #[.int .u8 a4_0, .int .u8 a4_1] 25 (0, 0)) (by (with_reducible repeat (first | refine blk_drewN ?_ _ | refine blk_drew ?_ | refine blk_alloc ?_ _)); exact BK221.out)) : gb221 ≠ gb237)); have n9_ := Aside0.mk ((by rw [hg]; exact Nat.ne_of_gt (blk_lt (g := gb221) (o := .cells #[.int .u8 a4_0, .int .u8 a4_1] 25 (0, 0)) (by (with_reducible repeat (first | refine blk_drewN ?_ _ | refine blk_drew ?_ | refine blk_alloc ?_ _)); exact BK221.out)) : gb237 ≠ gb221)); have n10_ := Aside0.mk ((by rw [hg]; exact Nat.ne_of_lt (blk_lt (g := gb231) (o := .cells #[.int .i64 t223, .int .i64 t224, .int .i64 t225, .int .i64 t226, .int .i64 t227, .slice Ao33 t228.length co33] 30 (0, 0)) (by (with_reducible repeat (first | refine blk_drewN ?_ _ | refine blk_drew ?_ | refine blk_alloc ?_ _)); exact BK231.out)) : gb231 ≠ gb237)); have n11_ := Aside0.mk ((by rw [hg]; exact Nat.ne_of_gt (blk_lt (g := gb231) (o := .cells #[.int .i64 t223, .int .i64 t224, .int .i64 t225, .int .i64 t226, .int .i64 t227, .slice Ao33 t228.length co33] 30 (0, 0)) (by (with_reducible repeat (first | refine blk_drewN ?_ _ | refine blk_drew ?_ | refine blk_alloc ?_ _)); exact BK231.out)) : gb237 ≠ gb231)); have n12_ := Aside0.mk ((by rw [hg]; exact Nat.ne_of_lt (blk_lt (g := gb234) (o := .cells #[.int .i64 t232, .int .i64 t233] 34 (0, 0)) (by (with_reducible repeat (first | refine blk_drewN ?_ _ | refine blk_drew ?_ | refine blk_alloc ?_ _)); exact BK234.out)) : gb234 ≠ gb237)); have n13_ := Aside0.mk ((by rw [hg]; exact Nat.ne_of_gt (blk_lt (g := gb234) (o := .cells #[.int .i64 t232, .int .i64 t233] 34 (0, 0)) (by (with_reducible repeat (first | refine blk_drewN ?_ _ | refine blk_drew ?_ | refine blk_alloc ?_ _)); exact BK234.out)) : gb237 ≠ gb234)); clear HO230; clear BK221; clear BK231; clear BK234; clear HB; have HO230 := n0_; have BK221 := n1_; have BK231 := n2_; have BK234 := n3_; have HB := n4_; have BK237 := n5_; have GW237 := n6_; have GE237 := n7_; have NB221_237 := n8_; have NB237_221 := n9_; have NB231_237 := n10_; have NB237_231 := n11_; have NB234_237 := n12_; have NB237_234 := n13_; clear n0_ n1_ n2_ n3_ n4_ n5_ n6_ n7_ n8_ n9_ n10_ n11_ n12_ n13_; clear hb hbox hg; have hnb44 := NB237_221.out; have hnc44 := NB221_237.out; have hnb45 := NB237_231.out; have hnc45 := NB231_237.out; have hnb46 := NB237_234.out; have hnc46 := NB234_237.out; have hcz47_0 : w43.cell? ⟨gb237, 0, none⟩ = some (.int .i64 0) := (blk_cell BK237.out 0).trans rfl; have hcz47_1 : w43.cell? ⟨gb237, 1, none⟩ = some (.int .i64 0) := (blk_cell BK237.out 1).trans rfl; have hfz47_0 := blk_frozen BK237.out 0; have hfz47_1 := blk_frozen BK237.out 1; have hcz48_0 : w43.cell? ⟨gb231, 0, none⟩ = some (.int .i64 t223) := (blk_cell BK231.out 0).trans rfl; have hcz48_1 : w43.cell? ⟨gb231, 1, none⟩ = some (.int .i64 t224) := (blk_cell BK231.out 1).trans rfl; have hcz48_2 : w43.cell? ⟨gb231, 2, none⟩ = some (.int .i64 t225) := (blk_cell BK231.out 2).trans rfl; have hcz48_3 : w43.cell? ⟨gb231, 3, none⟩ = some (.int .i64 t226) := (blk_cell BK231.out 3).trans rfl; have hcz48_4 : w43.cell? ⟨gb231, 4, none⟩ = some (.int .i64 t227) := (blk_cell BK231.out 4).trans rfl; have hcz48_5 : w43.cell? ⟨gb231, 5, none⟩ = some (.slice Ao33 t228.length co33) := (blk_cell BK231.out 5).trans rfl; have hfz48_0 := blk_frozen BK231.out 0; have hfz48_1 := blk_frozen BK231.out 1; have hfz48_2 := blk_frozen BK231.out 2; have hfz48_3 := blk_frozen BK231.out 3; have hfz48_4 := blk_frozen BK231.out 4; have hfz48_5 := blk_frozen BK231.out 5; have hcz49_0 : w43.cell? ⟨gb221, 0, none⟩ = some (.int .u8 a4_0) := (blk_cell BK221.out 0).trans rfl; have hcz49_1 : w43.cell? ⟨gb221, 1, none⟩ = some (.int .u8 a4_1) := (blk_cell BK221.out 1).trans rfl; have hfz49_0 := blk_frozen BK221.out 0; have hfz49_1 := blk_frozen BK221.out 1) | ((with_reducible refine gate_callee (f := 13) rfl ?_); refine goesL_ (some 51) rfl rfl Try.func13 (by kernel_rfl) rfl #[.agg #[.int .i64 t223, .int .i64 t224, .int .i64 t225, .int .i64 t226, .int .i64 t227, .slice Ao33 t228.length co33], .agg #[.int .u8 a4_0, .int .u8 a4_1], .int .u16 (IntKind.u16.wrap (wrap64 (32768 + (Int.tmod (wrap64 (a5)) 16384))))] rfl (by (try simp only [List.map_toArray, List.map_cons, List.map_nil]); first | done | rfl | (simp only [List.length_drop, List.length_take]; rfl)) ?_; (with_reducible refine (bank_Where.calls k t223 t224 t225 t226 t227 _ _ t228 a4_0 a4_1 (IntKind.u16.wrap (wrap64 (32768 + (Int.tmod (wrap64 (a5)) 16384)))) t238 t239 _ ?side1 ?side2 A14.out).mono ?_); (case side1 => refine (Kd.R_reads' (e := 5) (base := w.heap.size) (ok := fun k_ => True) (n := t228.length) (c := co33) ?_).2.2; exact (by (with_reducible repeat (first | apply Kd.R_alloc | apply Kd.R_drewN | apply Kd.R_drew)); exact (Kd.R_mono (Kd.R_far (p := ⟨gb237, 1, none⟩) (Kd.R_far (p := ⟨gb237, 0, none⟩) (Kd.R_types HO230.out BK237.out (by decide)) (fun _ hk => hk.2) (.int .i64 t235)) (fun _ hk => hk.2) (.int .i64 t236)) (fun _ h_ => h_.1)))); (case side2 => exact (Kd.R_reads' HO230.out).2.1); rintro e w50 ⟨rfl, hb⟩; refine ⟨_, rfl, ?_⟩; have n0_ := Aside0.mk (Kd.R_below (by (with_reducible repeat (first | apply Kd.R_alloc | apply Kd.R_drewN | apply Kd.R_drew)); exact (Kd.R_mono (Kd.R_far (p := ⟨gb237, 1, none⟩) (Kd.R_far (p := ⟨gb237, 0, none⟩) (Kd.R_types HO230.out BK237.out (by decide)) (fun _ hk => hk.2) (.int .i64 t235)) (fun _ hk => hk.2) (.int .i64 t236)) (fun _ h_ => h_.1))) hb); have n1_ := Aside0.mk (blk_below (g := gb221) (o := .cells #[.int .u8 a4_0, .int .u8 a4_1] 25 (0, 0)) (by (with_reducible repeat (first | refine blk_drewN ?_ _ | refine blk_drew ?_ | refine blk_alloc ?_ _)); refine blk_far ?_ NB221_237.out _; (with_reducible repeat (first | refine blk_drewN ?_ _ | refine blk_drew ?_ | refine blk_alloc ?_ _)); refine blk_far ?_ NB221_237.out _; (with_reducible repeat (first | refine blk_drewN ?_ _ | refine blk_drew ?_ | refine blk_alloc ?_ _)); exact BK221.out) hb); have n2_ := Aside0.mk (blk_below (g := gb231) (o := .cells #[.int .i64 t223, .int .i64 t224, .int .i64 t225, .int .i64 t226, .int .i64 t227, .slice Ao33 t228.length co33] 30 (0, 0)) (by (with_reducible repeat (first | refine blk_drewN ?_ _ | refine blk_drew ?_ | refine blk_alloc ?_ _)); refine blk_far ?_ NB231_237.out _; (with_reducible repeat (first | refine blk_drewN ?_ _ | refine blk_drew ?_ | refine blk_alloc ?_ _)); refine blk_far ?_ NB231_237.out _; (with_reducible repeat (first | refine blk_drewN ?_ _ | refine blk_drew ?_ | refine blk_alloc ?_ _)); exact BK231.out) hb); have n3_ := Aside0.mk (blk_below (g := gb234) (o := .cells #[.int .i64 t232, .int .i64 t233] 34 (0, 0)) (by (with_reducible repeat (first | refine blk_drewN ?_ _ | refine blk_drew ?_ | refine blk_alloc ?_ _)); refine blk_far ?_ NB234_237.out _; (with_reducible repeat (first | refine blk_drewN ?_ _ | refine blk_drew ?_ | refine blk_alloc ?_ _)); refine blk_far ?_ NB234_237.out _; (with_reducible repeat (first | refine blk_drewN ?_ _ | refine blk_drew ?_ | refine blk_alloc ?_ _)); exact BK234.out) hb); have n4_ := Aside0.mk (blk_below (g := gb237) (o := .cells #[.int .i64 t235, .int .i64 t236] 34 (0, 0)) (by (with_reducible repeat (first | refine blk_drewN ?_ _ | refine blk_drew ?_ | refine blk_alloc ?_ _)); refine blk_put (cs := #[.int .i64 t235, .int .i64 0]) ?_ 1 _ rfl; (with_reducible repeat (first | refine blk_drewN ?_ _ | refine blk_drew ?_ | refine blk_alloc ?_ _)); refine blk_put (cs := #[.int .i64 0, .int .i64 0]) ?_ 0 _ rfl; (with_reducible repeat (first | refine blk_drewN ?_ _ | refine blk_drew ?_ | refine blk_alloc ?_ _)); exact BK237.out) hb); have n5_ := Aside0.mk (below_step (by repeat (first | (with_reducible first | exact HB.out | apply below_alloc | apply pw_below_drewN | apply below_drew1 | refine below_set ?_ GE221.out | refine below_set ?_ GE231.out | refine below_set ?_ GE234.out | refine below_set ?_ GE237.out) | exact HB.out)) hb); clear HO230; clear BK221; clear BK231; clear BK234; clear BK237; clear HB; have HO230 := n0_; have BK221 := n1_; have BK231 := n2_; have BK234 := n3_; have BK237 := n4_; have HB := n5_; clear n0_ n1_ n2_ n3_ n4_ n5_; (try clear hb); (try clear hb2); (try clear hk); (try clear hi)) | ((with_reducible refine gate_dst (N := 19) rfl ?_); refine box_event ?hg (N := 19) ?hd (cs := #[.int .i64 0, .int .i64 0]) (t := 34) ?hr ?_; (case hd => rfl); (case hg => rfl); (case hr => first | (go_simp; done) | (go_simp; rfl)); intro gb240 hg w51 hbox hb; have n0_ := Aside0.mk (Kd.R_below (by (with_reducible repeat (first | apply Kd.R_alloc | apply Kd.R_drewN | apply Kd.R_drew)); exact HO230.out) hb); have n1_ := Aside0.mk (blk_below (g := gb221) (o := .cells #[.int .u8 a4_0, .int .u8 a4_1] 25 (0, 0)) (by (with_reducible repeat (first | refine blk_drewN ?_ _ | refine blk_drew ?_ | refine blk_alloc ?_ _)); exact BK221.out) hb); have n2_ := Aside0.mk (blk_below (g := gb231) (o := .cells #[.int .i64 t223, .int .i64 t224, .int .i64 t225, .int .i64 t226, .int .i64 t227, .slice Ao33 t228.length co33] 30 (0, 0)) (by (with_reducible repeat (first | refine blk_drewN ?_ _ | refine blk_drew ?_ | refine blk_alloc ?_ _)); exact BK231.out) hb); have n3_ := Aside0.mk (blk_below (g := gb234) (o := .cells #[.int .i64 t232, .int .i64 t233] 34 (0, 0)) (by (with_reducible repeat (first | refine blk_drewN ?_ _ | refine blk_drew ?_ | refine blk_alloc ?_ _)); exact BK234.out) hb); have n4_ := Aside0.mk (blk_below (g := gb237) (o := .cells #[.int .i64 t235, .int .i64 t236] 34 (0, 0)) (by (with_reducible repeat (first | refine blk_drewN ?_ _ | refine blk_drew ?_ | refine blk_alloc ?_ _)); exact BK237.out) hb); have n5_ := Aside0.mk (below_step (by repeat (first | (with_reducible first | exact HB.out | apply below_alloc | apply pw_below_drewN | apply below_drew1 | refine below_set ?_ GE221.out | refine below_set ?_ GE231.out | refine below_set ?_ GE234.out | refine below_set ?_ GE237.out) | exact HB.out)) hb); have n6_ := Aside0.mk (hbox); have n7_ := Aside0.mk ((by rw [hg]; exact (below_size (by repeat (first | (with_reducible first | exact HB.out | apply below_alloc | apply pw_below_drewN | apply below_drew1 | refine below_set ?_ GE221.out | refine below_set ?_ GE231.out | refine below_set ?_ GE234.out | refine below_set ?_ GE237.out) | exact HB.out))) : w.heap.size ≤ gb240)); have n8_ := Aside0.mk ((by rw [hg]; exact (below_size (by repeat (first | (with_reducible first | exact HB.out | apply below_alloc | apply pw_below_drewN | apply below_drew1 | refine below_set ?_ GE221.out | refine below_set ?_ GE231.out | refine below_set ?_ GE234.out | refine below_set ?_ GE237.out) | exact HB.out))) : w.heap.size ≤ gb240)); have n9_ := Aside0.mk ((by rw [hg]; exact Nat.ne_of_lt (blk_lt (g := gb221) (o := .cells #[.int .u8 a4_0, .int .u8 a4_1] 25 (0, 0)) (by (with_reducible repeat (first | refine blk_drewN ?_ _ | refine blk_drew ?_ | refine blk_alloc ?_ _)); exact BK221.out)) : gb221 ≠ gb240)); have n10_ := Aside0.mk ((by rw [hg]; exact Nat.ne_of_gt (blk_lt (g := gb221) (o := .cells #[.int .u8 a4_0, .int .u8 a4_1] 25 (0, 0)) (by (with_reducible repeat (first | refine blk_drewN ?_ _ | refine blk_drew ?_ | refine blk_alloc ?_ _)); exact BK221.out)) : gb240 ≠ gb221)); have n11_ := Aside0.mk ((by rw [hg]; exact Nat.ne_of_lt (blk_lt (g := gb231) (o := .cells #[.int .i64 t223, .int .i64 t224, .int .i64 t225, .int .i64 t226, .int .i64 t227, .slice Ao33 t228.length co33] 30 (0, 0)) (by (with_reducible repeat (first | refine blk_drewN ?_ _ | refine blk_drew ?_ | refine blk_alloc ?_ _)); exact BK231.out)) : gb231 ≠ gb240)); have n12_ := Aside0.mk ((by rw [hg]; exact Nat.ne_of_gt (blk_lt (g := gb231) (o := .cells #[.int .i64 t223, .int .i64 t224, .int .i64 t225, .int .i64 t226, .int .i64 t227, .slice Ao33 t228.length co33] 30 (0, 0)) (by (with_reducible repeat (first | refine blk_drewN ?_ _ | refine blk_drew ?_ | refine blk_alloc ?_ _)); exact BK231.out)) : gb240 ≠ gb231)); have n13_ := Aside0.mk ((by rw [hg]; exact Nat.ne_of_lt (blk_lt (g := gb234) (o := .cells #[.int .i64 t232, .int .i64 t233] 34 (0, 0)) (by (with_reducible repeat (first | refine blk_drewN ?_ _ | refine blk_drew ?_ | refine blk_alloc ?_ _)); exact BK234.out)) : gb234 ≠ gb240)); have n14_ := Aside0.mk ((by rw [hg]; exact Nat.ne_of_gt (blk_lt (g := gb234) (o := .cells #[.int .i64 t232, .int .i64 t233] 34 (0, 0)) (by (with_reducible repeat (first | refine blk_drewN ?_ _ | refine blk_drew ?_ | refine blk_alloc ?_ _)); exact BK234.out)) : gb240 ≠ gb234)); have n15_ := Aside0.mk ((by rw [hg]; exact Nat.ne_of_lt (blk_lt (g := gb237) (o := .cells #[.int .i64 t235, .int .i64 t236] 34 (0, 0)) (by (with_reducible repeat (first | refine blk_drewN ?_ _ | refine blk_drew ?_ | refine blk_alloc ?_ _)); exact BK237.out)) : gb237 ≠ gb240)); have n16_ := Aside0.mk ((by rw [hg]; exact Nat.ne_of_gt (blk_lt (g := gb237) (o := .cells #[.int .i64 t235, .int .i64 t236] 34 (0, 0)) (by (with_reducible repeat (first | refine blk_drewN ?_ _ | refine blk_drew ?_ | refine blk_alloc ?_ _)); exact BK237.out)) : gb240 ≠ gb237)); clear HO230; clear BK221; clear BK231; clear BK234; clear BK237; clear HB; have HO230 := n0_; have BK221 := n1_; have BK231 := n2_; have BK234 := n3_; have BK237 := n4_; have HB := n5_; have BK240 := n6_; have GW240 := n7_; have GE240 := n8_; have NB221_240 := n9_; have NB240_221 := n10_; have NB231_240 := n11_; have NB240_231 := n12_; have NB234_240 := n13_; have NB240_234 := n14_; have NB237_240 := n15_; have NB240_237 := n16_; clear n0_ n1_ n2_ n3_ n4_ n5_ n6_ n7_ n8_ n9_ n10_ n11_ n12_ n13_ n14_ n15_ n16_; clear hb hbox hg; have hnb52 := NB240_221.out; have hnc52 := NB221_240.out; have hnb53 := NB240_231.out; have hnc53 := NB231_240.out; have hnb54 := NB240_234.out; have hnc54 := NB234_240.out; have hnb55 := NB240_237.out; have hnc55 := NB237_240.out; have hcz56_0 : w51.cell? ⟨gb240, 0, none⟩ = some (.int .i64 0) := (blk_cell BK240.out 0).trans rfl; have hcz56_1 : w51.cell? ⟨gb240, 1, none⟩ = some (.int .i64 0) := (blk_cell BK240.out 1).trans rfl; have hfz56_0 := blk_frozen BK240.out 0; have hfz56_1 := blk_frozen BK240.out 1; have hcz57_0 : w51.cell? ⟨gb231, 0, none⟩ = some (.int .i64 t223) := (blk_cell BK231.out 0).trans rfl; have hcz57_1 : w51.cell? ⟨gb231, 1, none⟩ = some (.int .i64 t224) := (blk_cell BK231.out 1).trans rfl; have hcz57_2 : w51.cell? ⟨gb231, 2, none⟩ = some (.int .i64 t225) := (blk_cell BK231.out 2).trans rfl; have hcz57_3 : w51.cell? ⟨gb231, 3, none⟩ = some (.int .i64 t226) := (blk_cell BK231.out 3).trans rfl; have hcz57_4 : w51.cell? ⟨gb231, 4, none⟩ = some (.int .i64 t227) := (blk_cell BK231.out 4).trans rfl; have hcz57_5 : w51.cell? ⟨gb231, 5, none⟩ = some (.slice Ao33 t228.length co33) := (blk_cell BK231.out 5).trans rfl; have hfz57_0 := blk_frozen BK231.out 0; have hfz57_1 := blk_frozen BK231.out 1; have hfz57_2 := blk_frozen BK231.out 2; have hfz57_3 := blk_frozen BK231.out 3; have hfz57_4 := blk_frozen BK231.out 4; have hfz57_5 := blk_frozen BK231.out 5; have hcz58_0 : w51.cell? ⟨gb221, 0, none⟩ = some (.int .u8 a4_0) := (blk_cell BK221.out 0).trans rfl; have hcz58_1 : w51.cell? ⟨gb221, 1, none⟩ = some (.int .u8 a4_1) := (blk_cell BK221.out 1).trans rfl; have hfz58_0 := blk_frozen BK221.out 0; have hfz58_1 := blk_frozen BK221.out 1) | ((with_reducible refine gate_callee (f := 13) rfl ?_); refine goesL_ (some 58) rfl rfl Try.func13 (by kernel_rfl) rfl #[.agg #[.int .i64 t223, .int .i64 t224, .int .i64 t225, .int .i64 t226, .int .i64 t227, .slice Ao33 t228.length co33], .agg #[.int .u8 a4_0, .int .u8 a4_1], .int .u16 (IntKind.u16.wrap (wrap64 (49152 + (Int.tmod (wrap64 (a5)) 16384))))] rfl (by (try simp only [List.map_toArray, List.map_cons, List.map_nil]); first | done | rfl | (simp only [List.length_drop, List.length_take]; rfl)) ?_; (with_reducible refine (bank_Where.calls k t223 t224 t225 t226 t227 _ _ t228 a4_0 a4_1 (IntKind.u16.wrap (wrap64 (49152 + (Int.tmod (wrap64 (a5)) 16384)))) t241 t242 _ ?side1 ?side2 A15.out).mono ?_); (case side1 => refine (Kd.R_reads' (e := 5) (base := w.heap.size) (ok := fun k_ => True) (n := t228.length) (c := co33) ?_).2.2; exact (by (with_reducible repeat (first | apply Kd.R_alloc | apply Kd.R_drewN | apply Kd.R_drew)); exact (Kd.R_mono (Kd.R_far (p := ⟨gb240, 1, none⟩) (Kd.R_far (p := ⟨gb240, 0, none⟩) (Kd.R_types HO230.out BK240.out (by decide)) (fun _ hk => hk.2) (.int .i64 t238)) (fun _ hk => hk.2) (.int .i64 t239)) (fun _ h_ => h_.1)))); (case side2 => exact (Kd.R_reads' HO230.out).2.1); rintro e w59 ⟨rfl, hb⟩; refine ⟨_, rfl, ?_⟩; have n0_ := Aside0.mk (Kd.R_below (by (with_reducible repeat (first | apply Kd.R_alloc | apply Kd.R_drewN | apply Kd.R_drew)); exact (Kd.R_mono (Kd.R_far (p := ⟨gb240, 1, none⟩) (Kd.R_far (p := ⟨gb240, 0, none⟩) (Kd.R_types HO230.out BK240.out (by decide)) (fun _ hk => hk.2) (.int .i64 t238)) (fun _ hk => hk.2) (.int .i64 t239)) (fun _ h_ => h_.1))) hb); have n1_ := Aside0.mk (blk_below (g := gb221) (o := .cells #[.int .u8 a4_0, .int .u8 a4_1] 25 (0, 0)) (by (with_reducible repeat (first | refine blk_drewN ?_ _ | refine blk_drew ?_ | refine blk_alloc ?_ _)); refine blk_far ?_ NB221_240.out _; (with_reducible repeat (first | refine blk_drewN ?_ _ | refine blk_drew ?_ | refine blk_alloc ?_ _)); refine blk_far ?_ NB221_240.out _; (with_reducible repeat (first | refine blk_drewN ?_ _ | refine blk_drew ?_ | refine blk_alloc ?_ _)); exact BK221.out) hb); have n2_ := Aside0.mk (blk_below (g := gb231) (o := .cells #[.int .i64 t223, .int .i64 t224, .int .i64 t225, .int .i64 t226, .int .i64 t227, .slice Ao33 t228.length co33] 30 (0, 0)) (by (with_reducible repeat (first | refine blk_drewN ?_ _ | refine blk_drew ?_ | refine blk_alloc ?_ _)); refine blk_far ?_ NB231_240.out _; (with_reducible repeat (first | refine blk_drewN ?_ _ | refine blk_drew ?_ | refine blk_alloc ?_ _)); refine blk_far ?_ NB231_240.out _; (with_reducible repeat (first | refine blk_drewN ?_ _ | refine blk_drew ?_ | refine blk_alloc ?_ _)); exact BK231.out) hb); have n3_ := Aside0.mk (blk_below (g := gb234) (o := .cells #[.int .i64 t232, .int .i64 t233] 34 (0, 0)) (by (with_reducible repeat (first | refine blk_drewN ?_ _ | refine blk_drew ?_ | refine blk_alloc ?_ _)); refine blk_far ?_ NB234_240.out _; (with_reducible repeat (first | refine blk_drewN ?_ _ | refine blk_drew ?_ | refine blk_alloc ?_ _)); refine blk_far ?_ NB234_240.out _; (with_reducible repeat (first | refine blk_drewN ?_ _ | refine blk_drew ?_ | refine blk_alloc ?_ _)); exact BK234.out) hb); have n4_ := Aside0.mk (blk_below (g := gb237) (o := .cells #[.int .i64 t235, .int .i64 t236] 34 (0, 0)) (by (with_reducible repeat (first | refine blk_drewN ?_ _ | refine blk_drew ?_ | refine blk_alloc ?_ _)); refine blk_far ?_ NB237_240.out _; (with_reducible repeat (first | refine blk_drewN ?_ _ | refine blk_drew ?_ | refine blk_alloc ?_ _)); refine blk_far ?_ NB237_240.out _; (with_reducible repeat (first | refine blk_drewN ?_ _ | refine blk_drew ?_ | refine blk_alloc ?_ _)); exact BK237.out) hb); have n5_ := Aside0.mk (blk_below (g := gb240) (o := .cells #[.int .i64 t238, .int .i64 t239] 34 (0, 0)) (by (with_reducible repeat (first | refine blk_drewN ?_ _ | refine blk_drew ?_ | refine blk_alloc ?_ _)); refine blk_put (cs := #[.int .i64 t238, .int .i64 0]) ?_ 1 _ rfl; (with_reducible repeat (first | refine blk_drewN ?_ _ | refine blk_drew ?_ | refine blk_alloc ?_ _)); refine blk_put (cs := #[.int .i64 0, .int .i64 0]) ?_ 0 _ rfl; (with_reducible repeat (first | refine blk_drewN ?_ _ | refine blk_drew ?_ | refine blk_alloc ?_ _)); exact BK240.out) hb); have n6_ := Aside0.mk (below_step (by repeat (first | (with_reducible first | exact HB.out | apply below_alloc | apply pw_below_drewN | apply below_drew1 | refine below_set ?_ GE221.out | refine below_set ?_ GE231.out | refine below_set ?_ GE234.out | refine below_set ?_ GE237.out | refine below_set ?_ GE240.out) | exact HB.out)) hb); clear HO230; clear BK221; clear BK231; clear BK234; clear BK237; clear BK240; clear HB; have HO230 := n0_; have BK221 := n1_; have BK231 := n2_; have BK234 := n3_; have BK237 := n4_; have BK240 := n5_; have HB := n6_; clear n0_ n1_ n2_ n3_ n4_ n5_ n6_; (try clear hb); (try clear hb2); (try clear hk); (try clear hi)) | ((with_reducible refine gate_dst (N := 20) rfl ?_); refine box_event ?hg (N := 20) ?hd (cs := #[.int .i64 0, .int .i64 0]) (t := 34) ?hr ?_; (case hd => rfl); (case hg => rfl); (case hr => first | (go_simp; done) | (go_simp; rfl)); intro gb243 hg w60 hbox hb; have n0_ := Aside0.mk (Kd.R_below (by (with_reducible repeat (first | apply Kd.R_alloc | apply Kd.R_drewN | apply Kd.R_drew)); exact HO230.out) hb); have n1_ := Aside0.mk (blk_below (g := gb221) (o := .cells #[.int .u8 a4_0, .int .u8 a4_1] 25 (0, 0)) (by (with_reducible repeat (first | refine blk_drewN ?_ _ | refine blk_drew ?_ | refine blk_alloc ?_ _)); exact BK221.out) hb); have n2_ := Aside0.mk (blk_below (g := gb231) (o := .cells #[.int .i64 t223, .int .i64 t224, .int .i64 t225, .int .i64 t226, .int .i64 t227, .slice Ao33 t228.length co33] 30 (0, 0)) (by (with_reducible repeat (first | refine blk_drewN ?_ _ | refine blk_drew ?_ | refine blk_alloc ?_ _)); exact BK231.out) hb); have n3_ := Aside0.mk (blk_below (g := gb234) (o := .cells #[.int .i64 t232, .int .i64 t233] 34 (0, 0)) (by (with_reducible repeat (first | refine blk_drewN ?_ _ | refine blk_drew ?_ | refine blk_alloc ?_ _)); exact BK234.out) hb); have n4_ := Aside0.mk (blk_below (g := gb237) (o := .cells #[.int .i64 t235, .int .i64 t236] 34 (0, 0)) (by (with_reducible repeat (first | refine blk_drewN ?_ _ | refine blk_drew ?_ | refine blk_alloc ?_ _)); exact BK237.out) hb); have n5_ := Aside0.mk (blk_below (g := gb240) (o := .cells #[.int .i64 t238, .int .i64 t239] 34 (0, 0)) (by (with_reducible repeat (first | refine blk_drewN ?_ _ | refine blk_drew ?_ | refine blk_alloc ?_ _)); exact BK240.out) hb); have n6_ := Aside0.mk (below_step (by repeat (first | (with_reducible first | exact HB.out | apply below_alloc | apply pw_below_drewN | apply below_drew1 | refine below_set ?_ GE221.out | refine below_set ?_ GE231.out | refine below_set ?_ GE234.out | refine below_set ?_ GE237.out | refine below_set ?_ GE240.out) | exact HB.out)) hb); have n7_ := Aside0.mk (hbox); have n8_ := Aside0.mk ((by rw [hg]; exact (below_size (by repeat (first | (with_reducible first | exact HB.out | apply below_alloc | apply pw_below_drewN | apply below_drew1 | refine below_set ?_ GE221.out | refine below_set ?_ GE231.out | refine below_set ?_ GE234.out | refine below_set ?_ GE237.out | refine below_set ?_ GE240.out) | exact HB.out))) : w.heap.size ≤ gb243)); have n9_ := Aside0.mk ((by rw [hg]; exact (below_size (by repeat (first | (with_reducible first | exact HB.out | apply below_alloc | apply pw_below_drewN | apply below_drew1 | refine below_set ?_ GE221.out | refine below_set ?_ GE231.out | refine below_set ?_ GE234.out | refine below_set ?_ GE237.out | refine below_set ?_ GE240.out) | exact HB.out))) : w.heap.size ≤ gb243)); have n10_ := Aside0.mk ((by rw [hg]; exact Nat.ne_of_lt (blk_lt (g := gb221) (o := .cells #[.int .u8 a4_0, .int .u8 a4_1] 25 (0, 0)) (by (with_reducible repeat (first | refine blk_drewN ?_ _ | refine blk_drew ?_ | refine blk_alloc ?_ _)); exact BK221.out)) : gb221 ≠ gb243)); have n11_ := Aside0.mk ((by rw [hg]; exact Nat.ne_of_gt (blk_lt (g := gb221) (o := .cells #[.int .u8 a4_0, .int .u8 a4_1] 25 (0, 0)) (by (with_reducible repeat (first | refine blk_drewN ?_ _ | refine blk_drew ?_ | refine blk_alloc ?_ _)); exact BK221.out)) : gb243 ≠ gb221)); have n12_ := Aside0.mk ((by rw [hg]; exact Nat.ne_of_lt (blk_lt (g := gb231) (o := .cells #[.int .i64 t223, .int .i64 t224, .int .i64 t225, .int .i64 t226, .int .i64 t227, .slice Ao33 t228.length co33] 30 (0, 0)) (by (with_reducible repeat (first | refine blk_drewN ?_ _ | refine blk_drew ?_ | refine blk_alloc ?_ _)); exact BK231.out)) : gb231 ≠ gb243)); have n13_ := Aside0.mk ((by rw [hg]; exact Nat.ne_of_gt (blk_lt (g := gb231) (o := .cells #[.int .i64 t223, .int .i64 t224, .int .i64 t225, .int .i64 t226, .int .i64 t227, .slice Ao33 t228.length co33] 30 (0, 0)) (by (with_reducible repeat (first | refine blk_drewN ?_ _ | refine blk_drew ?_ | refine blk_alloc ?_ _)); exact BK231.out)) : gb243 ≠ gb231)); have n14_ := Aside0.mk ((by rw [hg]; exact Nat.ne_of_lt (blk_lt (g := gb234) (o := .cells #[.int .i64 t232, .int .i64 t233] 34 (0, 0)) (by (with_reducible repeat (first | refine blk_drewN ?_ _ | refine blk_drew ?_ | refine blk_alloc ?_ _)); exact BK234.out)) : gb234 ≠ gb243)); have n15_ := Aside0.mk ((by rw [hg]; exact Nat.ne_of_gt (blk_lt (g := gb234) (o := .cells #[.int .i64 t232, .int .i64 t233] 34 (0, 0)) (by (with_reducible repeat (first | refine blk_drewN ?_ _ | refine blk_drew ?_ | refine blk_alloc ?_ _)); exact BK234.out)) : gb243 ≠ gb234)); have n16_ := Aside0.mk ((by rw [hg]; exact Nat.ne_of_lt (blk_lt (g := gb237) (o := .cells #[.int .i64 t235, .int .i64 t236] 34 (0, 0)) (by (with_reducible repeat (first | refine blk_drewN ?_ _ | refine blk_drew ?_ | refine blk_alloc ?_ _)); exact BK237.out)) : gb237 ≠ gb243)); have n17_ := Aside0.mk ((by rw [hg]; exact Nat.ne_of_gt (blk_lt (g := gb237) (o := .cells #[.int .i64 t235, .int .i64 t236] 34 (0, 0)) (by (with_reducible repeat (first | refine blk_drewN ?_ _ | refine blk_drew ?_ | refine blk_alloc ?_ _)); exact BK237.out)) : gb243 ≠ gb237)); have n18_ := Aside0.mk ((by rw [hg]; exact Nat.ne_of_lt (blk_lt (g := gb240) (o := .cells #[.int .i64 t238, .int .i64 t239] 34 (0, 0)) (by (with_reducible repeat (first | refine blk_drewN ?_ _ | refine blk_drew ?_ | refine blk_alloc ?_ _)); exact BK240.out)) : gb240 ≠ gb243)); have n19_ := Aside0.mk ((by rw [hg]; exact Nat.ne_of_gt (blk_lt (g := gb240) (o := .cells #[.int .i64 t238, .int .i64 t239] 34 (0, 0)) (by (with_reducible repeat (first | refine blk_drewN ?_ _ | refine blk_drew ?_ | refine blk_alloc ?_ _)); exact BK240.out)) : gb243 ≠ gb240)); clear HO230; clear BK221; clear BK231; clear BK234; clear BK237; clear BK240; clear HB; have HO230 := n0_; have BK221 := n1_; have BK231 := n2_; have BK234 := n3_; have BK237 := n4_; have BK240 := n5_; have HB := n6_; have BK243 := n7_; have GW243 := n8_; have GE243 := n9_; have NB221_243 := n10_; have NB243_221 := n11_; have NB231_243 := n12_; have NB243_231 := n13_; have NB234_243 := n14_; have NB243_234 := n15_; have NB237_243 := n16_; have NB243_237 := n17_; have NB240_243 := n18_; have NB243_240 := n19_; clear n0_ n1_ n2_ n3_ n4_ n5_ n6_ n7_ n8_ n9_ n10_ n11_ n12_ n13_ n14_ n15_ n16_ n17_ n18_ n19_; clear hb hbox hg; have hnb61 := NB243_221.out; have hnc61 := NB221_243.out; have hnb62 := NB243_231.out; have hnc62 := NB231_243.out; have hnb63 := NB243_234.out; have hnc63 := NB234_243.out; have hnb64 := NB243_237.out; have hnc64 := NB237_243.out; have hnb65 := NB243_240.out; have hnc65 := NB240_243.out; have hcz66_0 : w60.cell? ⟨gb243, 0, none⟩ = some (.int .i64 0) := (blk_cell BK243.out 0).trans rfl; have hcz66_1 : w60.cell? ⟨gb243, 1, none⟩ = some (.int .i64 0) := (blk_cell BK243.out 1).trans rfl; have hfz66_0 := blk_frozen BK243.out 0; have hfz66_1 := blk_frozen BK243.out 1))
                  have n0_ : Aside0 (Kd.R (Kd.int .u8) 5 ((w60.setCell ⟨gb243, 0, none⟩ (.int .i64 t241)).setCell ⟨gb243, 1, none⟩ (.int .i64 t242)) w.heap.size (fun _ => True) (.slice Ao33 t228.length co33) t228) := ⟨by (with_reducible repeat (first | apply Kd.R_alloc | apply Kd.R_drewN | apply Kd.R_drew)); exact Kd.R_mono (Kd.R_far (p := ⟨gb243, 1, none⟩) (Kd.R_far (p := ⟨gb243, 0, none⟩) (Kd.R_types HO230.out BK243.out (by decide)) (fun _ hk => hk.2) (.int .i64 t241)) (fun _ hk => hk.2) (.int .i64 t242)) (fun _ hk => trivial)⟩
                  have n1_ : Aside0 (((w60.setCell ⟨gb243, 0, none⟩ (.int .i64 t241)).setCell ⟨gb243, 1, none⟩ (.int .i64 t242)).heap[gb221]? = some (.cells #[.int .u8 a4_0, .int .u8 a4_1] 25 (0, 0))) := ⟨by (with_reducible repeat (first | refine blk_drewN ?_ _ | refine blk_drew ?_ | refine blk_alloc ?_ _)); refine blk_far ?_ NB221_243.out _; (with_reducible repeat (first | refine blk_drewN ?_ _ | refine blk_drew ?_ | refine blk_alloc ?_ _)); refine blk_far ?_ NB221_243.out _; (with_reducible repeat (first | refine blk_drewN ?_ _ | refine blk_drew ?_ | refine blk_alloc ?_ _)); exact BK221.out⟩
                  have n2_ : Aside0 (((w60.setCell ⟨gb243, 0, none⟩ (.int .i64 t241)).setCell ⟨gb243, 1, none⟩ (.int .i64 t242)).heap[gb231]? = some (.cells #[.int .i64 t223, .int .i64 t224, .int .i64 t225, .int .i64 t226, .int .i64 t227, .slice Ao33 t228.length co33] 30 (0, 0))) := ⟨by (with_reducible repeat (first | refine blk_drewN ?_ _ | refine blk_drew ?_ | refine blk_alloc ?_ _)); refine blk_far ?_ NB231_243.out _; (with_reducible repeat (first | refine blk_drewN ?_ _ | refine blk_drew ?_ | refine blk_alloc ?_ _)); refine blk_far ?_ NB231_243.out _; (with_reducible repeat (first | refine blk_drewN ?_ _ | refine blk_drew ?_ | refine blk_alloc ?_ _)); exact BK231.out⟩
                  have n3_ : Aside0 (((w60.setCell ⟨gb243, 0, none⟩ (.int .i64 t241)).setCell ⟨gb243, 1, none⟩ (.int .i64 t242)).heap[gb234]? = some (.cells #[.int .i64 t232, .int .i64 t233] 34 (0, 0))) := ⟨by (with_reducible repeat (first | refine blk_drewN ?_ _ | refine blk_drew ?_ | refine blk_alloc ?_ _)); refine blk_far ?_ NB234_243.out _; (with_reducible repeat (first | refine blk_drewN ?_ _ | refine blk_drew ?_ | refine blk_alloc ?_ _)); refine blk_far ?_ NB234_243.out _; (with_reducible repeat (first | refine blk_drewN ?_ _ | refine blk_drew ?_ | refine blk_alloc ?_ _)); exact BK234.out⟩
                  have n4_ : Aside0 (((w60.setCell ⟨gb243, 0, none⟩ (.int .i64 t241)).setCell ⟨gb243, 1, none⟩ (.int .i64 t242)).heap[gb237]? = some (.cells #[.int .i64 t235, .int .i64 t236] 34 (0, 0))) := ⟨by (with_reducible repeat (first | refine blk_drewN ?_ _ | refine blk_drew ?_ | refine blk_alloc ?_ _)); refine blk_far ?_ NB237_243.out _; (with_reducible repeat (first | refine blk_drewN ?_ _ | refine blk_drew ?_ | refine blk_alloc ?_ _)); refine blk_far ?_ NB237_243.out _; (with_reducible repeat (first | refine blk_drewN ?_ _ | refine blk_drew ?_ | refine blk_alloc ?_ _)); exact BK237.out⟩
                  have n5_ : Aside0 (((w60.setCell ⟨gb243, 0, none⟩ (.int .i64 t241)).setCell ⟨gb243, 1, none⟩ (.int .i64 t242)).heap[gb240]? = some (.cells #[.int .i64 t238, .int .i64 t239] 34 (0, 0))) := ⟨by (with_reducible repeat (first | refine blk_drewN ?_ _ | refine blk_drew ?_ | refine blk_alloc ?_ _)); refine blk_far ?_ NB240_243.out _; (with_reducible repeat (first | refine blk_drewN ?_ _ | refine blk_drew ?_ | refine blk_alloc ?_ _)); refine blk_far ?_ NB240_243.out _; (with_reducible repeat (first | refine blk_drewN ?_ _ | refine blk_drew ?_ | refine blk_alloc ?_ _)); exact BK240.out⟩
                  have n6_ : Aside0 (((w60.setCell ⟨gb243, 0, none⟩ (.int .i64 t241)).setCell ⟨gb243, 1, none⟩ (.int .i64 t242)).heap[gb243]? = some (.cells #[.int .i64 t241, .int .i64 t242] 34 (0, 0))) := ⟨by (with_reducible repeat (first | refine blk_drewN ?_ _ | refine blk_drew ?_ | refine blk_alloc ?_ _)); refine blk_put (cs := #[.int .i64 t241, .int .i64 0]) ?_ 1 _ rfl; (with_reducible repeat (first | refine blk_drewN ?_ _ | refine blk_drew ?_ | refine blk_alloc ?_ _)); refine blk_put (cs := #[.int .i64 0, .int .i64 0]) ?_ 0 _ rfl; (with_reducible repeat (first | refine blk_drewN ?_ _ | refine blk_drew ?_ | refine blk_alloc ?_ _)); exact BK243.out⟩
                  have n7_ : Aside0 (Below w.heap.size w ((w60.setCell ⟨gb243, 0, none⟩ (.int .i64 t241)).setCell ⟨gb243, 1, none⟩ (.int .i64 t242))) := ⟨by repeat (first | (with_reducible first | exact HB.out | apply below_alloc | apply pw_below_drewN | apply below_drew1 | refine below_set ?_ GE221.out | refine below_set ?_ GE231.out | refine below_set ?_ GE234.out | refine below_set ?_ GE237.out | refine below_set ?_ GE240.out | refine below_set ?_ GE243.out) | exact HB.out)⟩
                  (try clear HO230)
                  (try clear BK221)
                  (try clear BK231)
                  (try clear BK234)
                  (try clear BK237)
                  (try clear BK240)
                  (try clear BK243)
                  (try clear HB)
                  generalize ((w60.setCell ⟨gb243, 0, none⟩ (.int .i64 t241)).setCell ⟨gb243, 1, none⟩ (.int .i64 t242)) = w67 at n0_ n1_ n2_ n3_ n4_ n5_ n6_ n7_ ⊢
                  have HO230 := n0_
                  have BK221 := n1_
                  have BK231 := n2_
                  have BK234 := n3_
                  have BK237 := n4_
                  have BK240 := n5_
                  have BK243 := n6_
                  have HB := n7_
                  clear n0_ n1_ n2_ n3_ n4_ n5_ n6_ n7_
                  have n0_ := Aside0.mk (Kd.R_drew HO230.out)
                  have n1_ := Aside0.mk (blk_drew BK221.out)
                  have n2_ := Aside0.mk (blk_drew BK231.out)
                  have n3_ := Aside0.mk (blk_drew BK234.out)
                  have n4_ := Aside0.mk (blk_drew BK237.out)
                  have n5_ := Aside0.mk (blk_drew BK240.out)
                  have n6_ := Aside0.mk (blk_drew BK243.out)
                  have n7_ := Aside0.mk (below_drew1 HB.out)
                  clear HO230
                  clear BK221
                  clear BK231
                  clear BK234
                  clear BK237
                  clear BK240
                  clear BK243
                  clear HB
                  have HO230 := n0_
                  have BK221 := n1_
                  have BK231 := n2_
                  have BK234 := n3_
                  have BK237 := n4_
                  have BK240 := n5_
                  have BK243 := n6_
                  have HB := n7_
                  clear n0_ n1_ n2_ n3_ n4_ n5_ n6_ n7_
                  refine start_ (n := 66) (S := fun w' => w'.cell? ⟨gb234, 0, none⟩ = some (.int .i64 t232) ∧ w'.cell? ⟨gb234, 1, none⟩ = some (.int .i64 t233) ∧ w'.cell? ⟨gb231, 0, none⟩ = some (.int .i64 t223) ∧ w'.cell? ⟨gb231, 1, none⟩ = some (.int .i64 t224) ∧ w'.cell? ⟨gb231, 2, none⟩ = some (.int .i64 t225) ∧ w'.cell? ⟨gb231, 3, none⟩ = some (.int .i64 t226) ∧ w'.cell? ⟨gb231, 4, none⟩ = some (.int .i64 t227) ∧ w'.cell? ⟨gb231, 5, none⟩ = some (.slice Ao33 t228.length co33) ∧ w'.cell? ⟨gb221, 0, none⟩ = some (.int .u8 a4_0) ∧ w'.cell? ⟨gb221, 1, none⟩ = some (.int .u8 a4_1) ∧ w'.cell? ⟨gb237, 0, none⟩ = some (.int .i64 t235) ∧ w'.cell? ⟨gb237, 1, none⟩ = some (.int .i64 t236) ∧ w'.cell? ⟨gb240, 0, none⟩ = some (.int .i64 t238) ∧ w'.cell? ⟨gb240, 1, none⟩ = some (.int .i64 t239) ∧ w'.cell? ⟨gb243, 0, none⟩ = some (.int .i64 t241) ∧ w'.cell? ⟨gb243, 1, none⟩ = some (.int .i64 t242)) (ds := []) #[false, false, false, false, false, false, false, false, false, false, false, false, false, false, false, false, false, false, false, false, false, false, false, false, false, false, false, false, false, false, false, false, false, false, false, false, false, false, false, false, false, false, false, false, false, false, false, false, false, false, false, false, false, false, false, false, false, false, false, false, false, false, false, false, false, false] (by kernel_rfl) rfl rfl ⟨(blk_cell BK234.out 0).trans rfl, (blk_cell BK234.out 1).trans rfl, (blk_cell BK231.out 0).trans rfl, (blk_cell BK231.out 1).trans rfl, (blk_cell BK231.out 2).trans rfl, (blk_cell BK231.out 3).trans rfl, (blk_cell BK231.out 4).trans rfl, (blk_cell BK231.out 5).trans rfl, (blk_cell BK221.out 0).trans rfl, (blk_cell BK221.out 1).trans rfl, (blk_cell BK237.out 0).trans rfl, (blk_cell BK237.out 1).trans rfl, (blk_cell BK240.out 0).trans rfl, (blk_cell BK240.out 1).trans rfl, (blk_cell BK243.out 0).trans rfl, (blk_cell BK243.out 1).trans rfl⟩ (fun hHeld => ?_); refine with_tabW keepsakelaw20_BankRounds.tab9 keepsakelaw20_BankRounds.bits9 (fun HT_ HW_ => ?_)
                  generalize w67.drew = w68 at HO230 BK221 BK231 BK234 BK237 BK240 BK243 HB hHeld ⊢
                  refine pure_ (i := 0) (N := some 59) (v := ?_) (a' := ?_) #[true, false, false, false, false, false, false, false, false, false, false, false, false, false, false, false, false, false, false, false, false, false, false, false, false, false, false, false, false, false, false, false, false, false, false, false, false, false, false, false, false, false, false, false, false, false, false, false, false, false, false, false, false, false, false, false, false, false, false, false, false, false, false, false, false, false] rfl rfl (any_of HT_.out (by kernel_rfl)) (fun _ _ _ h => h) (Or.inl ⟨by rfl, ?_⟩) ?_ ?_
                  rotate_left
                  · intro w'
                    go_simp
                    with_reducible rfl
                  rotate_left
                  · simp only [Act.put, List.setIfInBounds_toArray, List.set_cons_zero, List.set_cons_succ, i64_w, i32_w]
                    rfl
                  refine pure_ (i := 1) (N := some 60) (v := ?_) (a' := ?_) #[true, true, false, false, false, false, false, false, false, false, false, false, false, false, false, false, false, false, false, false, false, false, false, false, false, false, false, false, false, false, false, false, false, false, false, false, false, false, false, false, false, false, false, false, false, false, false, false, false, false, false, false, false, false, false, false, false, false, false, false, false, false, false, false, false, false] rfl rfl (any_of HT_.out (by kernel_rfl)) (fun _ _ _ h => h) (Or.inl ⟨by rfl, ?_⟩) ?_ ?_
                  rotate_left
                  · intro w'
                    go_simp
                    with_reducible rfl
                  rotate_left
                  · simp only [Act.put, List.setIfInBounds_toArray, List.set_cons_zero, List.set_cons_succ, i64_w, i32_w]
                    rfl
                  refine pure_ (i := 5) (N := some 64) (v := ?_) (a' := ?_) #[true, true, false, false, false, true, false, false, false, false, false, false, false, false, false, false, false, false, false, false, false, false, false, false, false, false, false, false, false, false, false, false, false, false, false, false, false, false, false, false, false, false, false, false, false, false, false, false, false, false, false, false, false, false, false, false, false, false, false, false, false, false, false, false, false, false] rfl rfl (any_of HT_.out (by kernel_rfl)) (fun _ _ _ h => h) (Or.inl ⟨by rfl, ?_⟩) ?_ ?_
                  rotate_left
                  · intro w'
                    go_simp
                    with_reducible rfl
                  rotate_left
                  · simp only [Act.put, List.setIfInBounds_toArray, List.set_cons_zero, List.set_cons_succ, i64_w, i32_w]
                    rfl
                  refine pure_ (i := 6) (N := some 65) (v := ?_) (a' := ?_) #[true, true, false, false, false, true, true, false, false, false, false, false, false, false, false, false, false, false, false, false, false, false, false, false, false, false, false, false, false, false, false, false, false, false, false, false, false, false, false, false, false, false, false, false, false, false, false, false, false, false, false, false, false, false, false, false, false, false, false, false, false, false, false, false, false, false] rfl rfl (any_of HT_.out (by kernel_rfl)) (fun _ _ _ h => h) (Or.inl ⟨by rfl, ?_⟩) ?_ ?_
                  rotate_left
                  · intro w'
                    go_simp
                    with_reducible rfl
                  rotate_left
                  · simp only [Act.put, List.setIfInBounds_toArray, List.set_cons_zero, List.set_cons_succ, i64_w, i32_w]
                    rfl
                  refine pure_ (i := 7) (N := some 66) (v := ?_) (a' := ?_) #[true, true, false, false, false, true, true, true, false, false, false, false, false, false, false, false, false, false, false, false, false, false, false, false, false, false, false, false, false, false, false, false, false, false, false, false, false, false, false, false, false, false, false, false, false, false, false, false, false, false, false, false, false, false, false, false, false, false, false, false, false, false, false, false, false, false] rfl rfl (any_of HT_.out (by kernel_rfl)) (fun _ _ _ h => h) (Or.inl ⟨by rfl, ?_⟩) ?_ ?_
                  rotate_left
                  · intro w'
                    go_simp
                    with_reducible rfl
                  rotate_left
                  · simp only [Act.put, List.setIfInBounds_toArray, List.set_cons_zero, List.set_cons_succ, i64_w, i32_w]
                    rfl
                  refine pure_ (i := 8) (N := some 67) (v := ?_) (a' := ?_) #[true, true, false, false, false, true, true, true, true, false, false, false, false, false, false, false, false, false, false, false, false, false, false, false, false, false, false, false, false, false, false, false, false, false, false, false, false, false, false, false, false, false, false, false, false, false, false, false, false, false, false, false, false, false, false, false, false, false, false, false, false, false, false, false, false, false] rfl rfl (any_of HT_.out (by kernel_rfl)) (fun _ _ _ h => h) (Or.inl ⟨by rfl, ?_⟩) ?_ ?_
                  rotate_left
                  · intro w'
                    go_simp
                    with_reducible rfl
                  rotate_left
                  · simp only [Act.put, List.setIfInBounds_toArray, List.set_cons_zero, List.set_cons_succ, i64_w, i32_w]
                    rfl
                  refine take_ (i := 2) (N := some 61) (v := ?_) (a' := ?_) #[true, true, true, false, false, true, true, true, true, false, false, false, false, false, false, false, false, false, false, false, false, false, false, false, false, false, false, false, false, false, false, false, false, false, false, false, false, false, false, false, false, false, false, false, false, false, false, false, false, false, false, false, false, false, false, false, false, false, false, false, false, false, false, false, false, false] rfl rfl (take_ofW HT_.out HW_.out (by kernel_rfl)) (fun _ _ _ h => h) (Or.inl ⟨by rfl, ?_⟩) hHeld ?_ ?_
                  rotate_left
                  · rintro w' ⟨s0, s1, s2, s3, s4, s5, s6, s7, s8, s9, s10, s11, s12, s13, s14, s15⟩
                    go_simp
                    with_reducible rfl
                  rotate_left
                  · simp only [Act.put, List.setIfInBounds_toArray, List.set_cons_zero, List.set_cons_succ, i64_w, i32_w]
                    rfl
                  refine take_ (i := 3) (N := some 62) (v := ?_) (a' := ?_) #[true, true, true, true, false, true, true, true, true, false, false, false, false, false, false, false, false, false, false, false, false, false, false, false, false, false, false, false, false, false, false, false, false, false, false, false, false, false, false, false, false, false, false, false, false, false, false, false, false, false, false, false, false, false, false, false, false, false, false, false, false, false, false, false, false, false] rfl rfl (take_ofW HT_.out HW_.out (by kernel_rfl)) (fun _ _ _ h => h) (Or.inl ⟨by rfl, ?_⟩) hHeld ?_ ?_
                  rotate_left
                  · rintro w' ⟨s0, s1, s2, s3, s4, s5, s6, s7, s8, s9, s10, s11, s12, s13, s14, s15⟩
                    go_simp
                    with_reducible rfl
                  rotate_left
                  · simp only [Act.put, List.setIfInBounds_toArray, List.set_cons_zero, List.set_cons_succ, i64_w, i32_w]
                    rfl
                  refine take_ (i := 4) (N := some 63) (v := ?_) (a' := ?_) #[true, true, true, true, true, true, true, true, true, false, false, false, false, false, false, false, false, false, false, false, false, false, false, false, false, false, false, false, false, false, false, false, false, false, false, false, false, false, false, false, false, false, false, false, false, false, false, false, false, false, false, false, false, false, false, false, false, false, false, false, false, false, false, false, false, false] rfl rfl (take_ofW HT_.out HW_.out (by kernel_rfl)) (fun _ _ _ h => h) (Or.inl ⟨by rfl, ?_⟩) hHeld ?_ ?_
                  rotate_left
                  · rintro w' ⟨s0, s1, s2, s3, s4, s5, s6, s7, s8, s9, s10, s11, s12, s13, s14, s15⟩
                    go_simp
                    with_reducible rfl
                  rotate_left
                  · simp only [Act.put, List.setIfInBounds_toArray, List.set_cons_zero, List.set_cons_succ, i64_w, i32_w]
                    rfl
                  refine one_ (i := 9) (N := some 68) #[true, true, true, true, true, true, true, true, true, true, false, false, false, false, false, false, false, false, false, false, false, false, false, false, false, false, false, false, false, false, false, false, false, false, false, false, false, false, false, false, false, false, false, false, false, false, false, false, false, false, false, false, false, false, false, false, false, false, false, false, false, false, false, false, false, false] rfl rfl (one_of HT_.out (by kernel_rfl)) (by decide) (fun K hK => ?_)
                  refine goes_ Try.func13 (by kernel_rfl) rfl #[.agg #[.int .i64 t223, .int .i64 t224, .int .i64 t225, .int .i64 t226, .int .i64 t227, .slice Ao33 t228.length co33], .agg #[.int .u8 a4_0, .int .u8 a4_1], .int .u16 (IntKind.u16.wrap (Int.tmod (wrap64 ((wrap64 (a5)) + 2048)) 8192))] (by rfl) rfl rfl (by (try simp only [List.map_toArray, List.map_cons, List.map_nil]); first | done | rfl | (simp only [List.length_drop, List.length_take]; rfl)) ?_
                  with_reducible refine (bank_Where.calls k t223 t224 t225 t226 t227 _ _ t228 a4_0 a4_1 (IntKind.u16.wrap (Int.tmod (wrap64 ((wrap64 (a5)) + 2048)) 8192)) t244 t245 _ ?side1 ?side2 A17.out).mono ?_
                  (case side1 => repeat (first | exact (Kd.R_reads' HO230.out).2.2 | (with_reducible refine Kd.C_alloc ?_ _) | (with_reducible refine Kd.C_drewN ?_ _) | (with_reducible refine Kd.C_drew ?_)))
                  (case side2 => exact (Kd.R_reads' HO230.out).2.1)
                  rintro e w69 ⟨rfl, hb⟩
                  refine ⟨_, rfl, ?_⟩
                  have n0_ := Aside0.mk (Kd.R_below (by (with_reducible repeat (first | apply Kd.R_alloc | apply Kd.R_drewN | apply Kd.R_drew)); exact HO230.out) hb)
                  have n1_ := Aside0.mk (blk_below (g := gb221) (o := .cells #[.int .u8 a4_0, .int .u8 a4_1] 25 (0, 0)) (by (with_reducible repeat (first | refine blk_drewN ?_ _ | refine blk_drew ?_ | refine blk_alloc ?_ _)); exact BK221.out) hb)
                  have n2_ := Aside0.mk (blk_below (g := gb231) (o := .cells #[.int .i64 t223, .int .i64 t224, .int .i64 t225, .int .i64 t226, .int .i64 t227, .slice Ao33 t228.length co33] 30 (0, 0)) (by (with_reducible repeat (first | refine blk_drewN ?_ _ | refine blk_drew ?_ | refine blk_alloc ?_ _)); exact BK231.out) hb)
                  have n3_ := Aside0.mk (blk_below (g := gb234) (o := .cells #[.int .i64 t232, .int .i64 t233] 34 (0, 0)) (by (with_reducible repeat (first | refine blk_drewN ?_ _ | refine blk_drew ?_ | refine blk_alloc ?_ _)); exact BK234.out) hb)
                  have n4_ := Aside0.mk (blk_below (g := gb237) (o := .cells #[.int .i64 t235, .int .i64 t236] 34 (0, 0)) (by (with_reducible repeat (first | refine blk_drewN ?_ _ | refine blk_drew ?_ | refine blk_alloc ?_ _)); exact BK237.out) hb)
                  have n5_ := Aside0.mk (blk_below (g := gb240) (o := .cells #[.int .i64 t238, .int .i64 t239] 34 (0, 0)) (by (with_reducible repeat (first | refine blk_drewN ?_ _ | refine blk_drew ?_ | refine blk_alloc ?_ _)); exact BK240.out) hb)
                  have n6_ := Aside0.mk (blk_below (g := gb243) (o := .cells #[.int .i64 t241, .int .i64 t242] 34 (0, 0)) (by (with_reducible repeat (first | refine blk_drewN ?_ _ | refine blk_drew ?_ | refine blk_alloc ?_ _)); exact BK243.out) hb)
                  have n7_ := Aside0.mk (below_step (by repeat (first | (with_reducible first | exact HB.out | apply below_alloc | apply pw_below_drewN | apply below_drew1 | refine below_set ?_ GE221.out | refine below_set ?_ GE231.out | refine below_set ?_ GE234.out | refine below_set ?_ GE237.out | refine below_set ?_ GE240.out | refine below_set ?_ GE243.out) | exact HB.out)) hb)
                  clear HO230
                  clear BK221
                  clear BK231
                  clear BK234
                  clear BK237
                  clear BK240
                  clear BK243
                  clear HB
                  have HO230 := n0_
                  have BK221 := n1_
                  have BK231 := n2_
                  have BK234 := n3_
                  have BK237 := n4_
                  have BK240 := n5_
                  have BK243 := n6_
                  have HB := n7_
                  clear n0_ n1_ n2_ n3_ n4_ n5_ n6_ n7_
                  (try clear hb)
                  (try clear hb2)
                  (try clear hk)
                  (try clear hi)
                  refine hK.out _ _ ⟨(blk_cell BK234.out 0).trans rfl, (blk_cell BK234.out 1).trans rfl, (blk_cell BK231.out 0).trans rfl, (blk_cell BK231.out 1).trans rfl, (blk_cell BK231.out 2).trans rfl, (blk_cell BK231.out 3).trans rfl, (blk_cell BK231.out 4).trans rfl, (blk_cell BK231.out 5).trans rfl, (blk_cell BK221.out 0).trans rfl, (blk_cell BK221.out 1).trans rfl, (blk_cell BK237.out 0).trans rfl, (blk_cell BK237.out 1).trans rfl, (blk_cell BK240.out 0).trans rfl, (blk_cell BK240.out 1).trans rfl, (blk_cell BK243.out 0).trans rfl, (blk_cell BK243.out 1).trans rfl⟩ (fun hHeld => ?_)
                  clear hK K
                  refine norm_ (a' := ?_) ?_ ?_
                  rotate_left
                  · show Act.put _ (some 68) _ = _
                    simp only [Act.put, List.setIfInBounds_toArray, List.set_cons_zero, List.set_cons_succ, i64_w, i32_w]
                    rfl
                  refine pure_ (i := 10) (N := some 69) (v := ?_) (a' := ?_) #[true, true, true, true, true, true, true, true, true, true, true, false, false, false, false, false, false, false, false, false, false, false, false, false, false, false, false, false, false, false, false, false, false, false, false, false, false, false, false, false, false, false, false, false, false, false, false, false, false, false, false, false, false, false, false, false, false, false, false, false, false, false, false, false, false, false] rfl rfl (any_of HT_.out (by kernel_rfl)) (fun _ _ _ h => h) (Or.inl ⟨by rfl, ?_⟩) ?_ ?_
                  rotate_left
                  · intro w'
                    go_simp
                    with_reducible rfl
                  rotate_left
                  · simp only [Act.put, List.setIfInBounds_toArray, List.set_cons_zero, List.set_cons_succ, i64_w, i32_w]
                    rfl
                  refine pure_ (i := 11) (N := some 70) (v := ?_) (a' := ?_) #[true, true, true, true, true, true, true, true, true, true, true, true, false, false, false, false, false, false, false, false, false, false, false, false, false, false, false, false, false, false, false, false, false, false, false, false, false, false, false, false, false, false, false, false, false, false, false, false, false, false, false, false, false, false, false, false, false, false, false, false, false, false, false, false, false, false] rfl rfl (any_of HT_.out (by kernel_rfl)) (fun _ _ _ h => h) (Or.inl ⟨by rfl, ?_⟩) ?_ ?_
                  rotate_left
                  · intro w'
                    go_simp
                    with_reducible rfl
                  rotate_left
                  · simp only [Act.put, List.setIfInBounds_toArray, List.set_cons_zero, List.set_cons_succ, i64_w, i32_w]
                    rfl
                  refine pure_ (i := 12) (N := some 71) (v := ?_) (a' := ?_) #[true, true, true, true, true, true, true, true, true, true, true, true, true, false, false, false, false, false, false, false, false, false, false, false, false, false, false, false, false, false, false, false, false, false, false, false, false, false, false, false, false, false, false, false, false, false, false, false, false, false, false, false, false, false, false, false, false, false, false, false, false, false, false, false, false, false] rfl rfl (any_of HT_.out (by kernel_rfl)) (fun _ _ _ h => h) (Or.inl ⟨by rfl, ?_⟩) ?_ ?_
                  rotate_left
                  · intro w'
                    go_simp
                    with_reducible rfl
                  rotate_left
                  · simp only [Act.put, List.setIfInBounds_toArray, List.set_cons_zero, List.set_cons_succ, i64_w, i32_w]
                    rfl
                  refine pure_ (i := 16) (N := some 75) (v := ?_) (a' := ?_) #[true, true, true, true, true, true, true, true, true, true, true, true, true, false, false, false, true, false, false, false, false, false, false, false, false, false, false, false, false, false, false, false, false, false, false, false, false, false, false, false, false, false, false, false, false, false, false, false, false, false, false, false, false, false, false, false, false, false, false, false, false, false, false, false, false, false] rfl rfl (any_of HT_.out (by kernel_rfl)) (fun _ _ _ h => h) (Or.inl ⟨by rfl, ?_⟩) ?_ ?_
                  rotate_left
                  · intro w'
                    go_simp
                    with_reducible rfl
                  rotate_left
                  · simp only [Act.put, List.setIfInBounds_toArray, List.set_cons_zero, List.set_cons_succ, i64_w, i32_w]
                    rfl
                  refine pure_ (i := 17) (N := some 76) (v := ?_) (a' := ?_) #[true, true, true, true, true, true, true, true, true, true, true, true, true, false, false, false, true, true, false, false, false, false, false, false, false, false, false, false, false, false, false, false, false, false, false, false, false, false, false, false, false, false, false, false, false, false, false, false, false, false, false, false, false, false, false, false, false, false, false, false, false, false, false, false, false, false] rfl rfl (any_of HT_.out (by kernel_rfl)) (fun _ _ _ h => h) (Or.inl ⟨by rfl, ?_⟩) ?_ ?_
                  rotate_left
                  · intro w'
                    go_simp
                    with_reducible rfl
                  rotate_left
                  · simp only [Act.put, List.setIfInBounds_toArray, List.set_cons_zero, List.set_cons_succ, i64_w, i32_w]
                    rfl
                  refine pure_ (i := 18) (N := some 77) (v := ?_) (a' := ?_) #[true, true, true, true, true, true, true, true, true, true, true, true, true, false, false, false, true, true, true, false, false, false, false, false, false, false, false, false, false, false, false, false, false, false, false, false, false, false, false, false, false, false, false, false, false, false, false, false, false, false, false, false, false, false, false, false, false, false, false, false, false, false, false, false, false, false] rfl rfl (any_of HT_.out (by kernel_rfl)) (fun _ _ _ h => h) (Or.inl ⟨by rfl, ?_⟩) ?_ ?_
                  rotate_left
                  · intro w'
                    go_simp
                    with_reducible rfl
                  rotate_left
                  · simp only [Act.put, List.setIfInBounds_toArray, List.set_cons_zero, List.set_cons_succ, i64_w, i32_w]
                    rfl
                  refine pure_ (i := 19) (N := some 78) (v := ?_) (a' := ?_) #[true, true, true, true, true, true, true, true, true, true, true, true, true, false, false, false, true, true, true, true, false, false, false, false, false, false, false, false, false, false, false, false, false, false, false, false, false, false, false, false, false, false, false, false, false, false, false, false, false, false, false, false, false, false, false, false, false, false, false, false, false, false, false, false, false, false] rfl rfl (any_of HT_.out (by kernel_rfl)) (fun _ _ _ h => h) (Or.inl ⟨by rfl, ?_⟩) ?_ ?_
                  rotate_left
                  · intro w'
                    go_simp
                    with_reducible rfl
                  rotate_left
                  · simp only [Act.put, List.setIfInBounds_toArray, List.set_cons_zero, List.set_cons_succ, i64_w, i32_w]
                    rfl
                  refine pure_ (i := 20) (N := some 79) (v := ?_) (a' := ?_) #[true, true, true, true, true, true, true, true, true, true, true, true, true, false, false, false, true, true, true, true, true, false, false, false, false, false, false, false, false, false, false, false, false, false, false, false, false, false, false, false, false, false, false, false, false, false, false, false, false, false, false, false, false, false, false, false, false, false, false, false, false, false, false, false, false, false] rfl rfl (any_of HT_.out (by kernel_rfl)) (fun _ _ _ h => h) (Or.inl ⟨by rfl, ?_⟩) ?_ ?_
                  rotate_left
                  · intro w'
                    go_simp
                    with_reducible rfl
                  rotate_left
                  · simp only [Act.put, List.setIfInBounds_toArray, List.set_cons_zero, List.set_cons_succ, i64_w, i32_w]
                    rfl
                  refine take_ (i := 13) (N := some 72) (v := ?_) (a' := ?_) #[true, true, true, true, true, true, true, true, true, true, true, true, true, true, false, false, true, true, true, true, true, false, false, false, false, false, false, false, false, false, false, false, false, false, false, false, false, false, false, false, false, false, false, false, false, false, false, false, false, false, false, false, false, false, false, false, false, false, false, false, false, false, false, false, false, false] rfl rfl (take_ofW HT_.out HW_.out (by kernel_rfl)) (fun _ _ _ h => h) (Or.inl ⟨by rfl, ?_⟩) hHeld ?_ ?_
                  rotate_left
                  · rintro w' ⟨s0, s1, s2, s3, s4, s5, s6, s7, s8, s9, s10, s11, s12, s13, s14, s15⟩
                    go_simp
                    with_reducible rfl
                  rotate_left
                  · simp only [Act.put, List.setIfInBounds_toArray, List.set_cons_zero, List.set_cons_succ, i64_w, i32_w]
                    rfl
                  refine take_ (i := 14) (N := some 73) (v := ?_) (a' := ?_) #[true, true, true, true, true, true, true, true, true, true, true, true, true, true, true, false, true, true, true, true, true, false, false, false, false, false, false, false, false, false, false, false, false, false, false, false, false, false, false, false, false, false, false, false, false, false, false, false, false, false, false, false, false, false, false, false, false, false, false, false, false, false, false, false, false, false] rfl rfl (take_ofW HT_.out HW_.out (by kernel_rfl)) (fun _ _ _ h => h) (Or.inl ⟨by rfl, ?_⟩) hHeld ?_ ?_
                  rotate_left
                  · rintro w' ⟨s0, s1, s2, s3, s4, s5, s6, s7, s8, s9, s10, s11, s12, s13, s14, s15⟩
                    go_simp
                    with_reducible rfl
                  rotate_left
                  · simp only [Act.put, List.setIfInBounds_toArray, List.set_cons_zero, List.set_cons_succ, i64_w, i32_w]
                    rfl
                  refine take_ (i := 15) (N := some 74) (v := ?_) (a' := ?_) #[true, true, true, true, true, true, true, true, true, true, true, true, true, true, true, true, true, true, true, true, true, false, false, false, false, false, false, false, false, false, false, false, false, false, false, false, false, false, false, false, false, false, false, false, false, false, false, false, false, false, false, false, false, false, false, false, false, false, false, false, false, false, false, false, false, false] rfl rfl (take_ofW HT_.out HW_.out (by kernel_rfl)) (fun _ _ _ h => h) (Or.inl ⟨by rfl, ?_⟩) hHeld ?_ ?_
                  rotate_left
                  · rintro w' ⟨s0, s1, s2, s3, s4, s5, s6, s7, s8, s9, s10, s11, s12, s13, s14, s15⟩
                    go_simp
                    with_reducible rfl
                  rotate_left
                  · simp only [Act.put, List.setIfInBounds_toArray, List.set_cons_zero, List.set_cons_succ, i64_w, i32_w]
                    rfl
                  refine one_ (i := 21) (N := some 80) #[true, true, true, true, true, true, true, true, true, true, true, true, true, true, true, true, true, true, true, true, true, true, false, false, false, false, false, false, false, false, false, false, false, false, false, false, false, false, false, false, false, false, false, false, false, false, false, false, false, false, false, false, false, false, false, false, false, false, false, false, false, false, false, false, false, false] rfl rfl (one_of HT_.out (by kernel_rfl)) (by decide) (fun K hK => ?_)
                  refine goes_ Try.func13 (by kernel_rfl) rfl #[.agg #[.int .i64 t223, .int .i64 t224, .int .i64 t225, .int .i64 t226, .int .i64 t227, .slice Ao33 t228.length co33], .agg #[.int .u8 a4_0, .int .u8 a4_1], .int .u16 (IntKind.u16.wrap (wrap64 (8192 + (Int.tmod (wrap64 ((wrap64 (a5)) + 16)) 8192))))] (by rfl) rfl rfl (by (try simp only [List.map_toArray, List.map_cons, List.map_nil]); first | done | rfl | (simp only [List.length_drop, List.length_take]; rfl)) ?_
                  with_reducible refine (bank_Where.calls k t223 t224 t225 t226 t227 _ _ t228 a4_0 a4_1 (IntKind.u16.wrap (wrap64 (8192 + (Int.tmod (wrap64 ((wrap64 (a5)) + 16)) 8192)))) t246 t247 _ ?side1 ?side2 A19.out).mono ?_
                  (case side1 => repeat (first | exact (Kd.R_reads' HO230.out).2.2 | (with_reducible refine Kd.C_alloc ?_ _) | (with_reducible refine Kd.C_drewN ?_ _) | (with_reducible refine Kd.C_drew ?_)))
                  (case side2 => exact (Kd.R_reads' HO230.out).2.1)
                  rintro e w70 ⟨rfl, hb⟩
                  refine ⟨_, rfl, ?_⟩
                  have n0_ := Aside0.mk (Kd.R_below (by (with_reducible repeat (first | apply Kd.R_alloc | apply Kd.R_drewN | apply Kd.R_drew)); exact HO230.out) hb)
                  have n1_ := Aside0.mk (blk_below (g := gb221) (o := .cells #[.int .u8 a4_0, .int .u8 a4_1] 25 (0, 0)) (by (with_reducible repeat (first | refine blk_drewN ?_ _ | refine blk_drew ?_ | refine blk_alloc ?_ _)); exact BK221.out) hb)
                  have n2_ := Aside0.mk (blk_below (g := gb231) (o := .cells #[.int .i64 t223, .int .i64 t224, .int .i64 t225, .int .i64 t226, .int .i64 t227, .slice Ao33 t228.length co33] 30 (0, 0)) (by (with_reducible repeat (first | refine blk_drewN ?_ _ | refine blk_drew ?_ | refine blk_alloc ?_ _)); exact BK231.out) hb)
                  have n3_ := Aside0.mk (blk_below (g := gb234) (o := .cells #[.int .i64 t232, .int .i64 t233] 34 (0, 0)) (by (with_reducible repeat (first | refine blk_drewN ?_ _ | refine blk_drew ?_ | refine blk_alloc ?_ _)); exact BK234.out) hb)
                  have n4_ := Aside0.mk (blk_below (g := gb237) (o := .cells #[.int .i64 t235, .int .i64 t236] 34 (0, 0)) (by (with_reducible repeat (first | refine blk_drewN ?_ _ | refine blk_drew ?_ | refine blk_alloc ?_ _)); exact BK237.out) hb)
                  have n5_ := Aside0.mk (blk_below (g := gb240) (o := .cells #[.int .i64 t238, .int .i64 t239] 34 (0, 0)) (by (with_reducible repeat (first | refine blk_drewN ?_ _ | refine blk_drew ?_ | refine blk_alloc ?_ _)); exact BK240.out) hb)
                  have n6_ := Aside0.mk (blk_below (g := gb243) (o := .cells #[.int .i64 t241, .int .i64 t242] 34 (0, 0)) (by (with_reducible repeat (first | refine blk_drewN ?_ _ | refine blk_drew ?_ | refine blk_alloc ?_ _)); exact BK243.out) hb)
                  have n7_ := Aside0.mk (below_step (by repeat (first | (with_reducible first | exact HB.out | apply below_alloc | apply pw_below_drewN | apply below_drew1 | refine below_set ?_ GE221.out | refine below_set ?_ GE231.out | refine below_set ?_ GE234.out | refine below_set ?_ GE237.out | refine below_set ?_ GE240.out | refine below_set ?_ GE243.out) | exact HB.out)) hb)
                  clear HO230
                  clear BK221
                  clear BK231
                  clear BK234
                  clear BK237
                  clear BK240
                  clear BK243
                  clear HB
                  have HO230 := n0_
                  have BK221 := n1_
                  have BK231 := n2_
                  have BK234 := n3_
                  have BK237 := n4_
                  have BK240 := n5_
                  have BK243 := n6_
                  have HB := n7_
                  clear n0_ n1_ n2_ n3_ n4_ n5_ n6_ n7_
                  (try clear hb)
                  (try clear hb2)
                  (try clear hk)
                  (try clear hi)
                  refine hK.out _ _ ⟨(blk_cell BK234.out 0).trans rfl, (blk_cell BK234.out 1).trans rfl, (blk_cell BK231.out 0).trans rfl, (blk_cell BK231.out 1).trans rfl, (blk_cell BK231.out 2).trans rfl, (blk_cell BK231.out 3).trans rfl, (blk_cell BK231.out 4).trans rfl, (blk_cell BK231.out 5).trans rfl, (blk_cell BK221.out 0).trans rfl, (blk_cell BK221.out 1).trans rfl, (blk_cell BK237.out 0).trans rfl, (blk_cell BK237.out 1).trans rfl, (blk_cell BK240.out 0).trans rfl, (blk_cell BK240.out 1).trans rfl, (blk_cell BK243.out 0).trans rfl, (blk_cell BK243.out 1).trans rfl⟩ (fun hHeld => ?_)
                  clear hK K
                  refine norm_ (a' := ?_) ?_ ?_
                  rotate_left
                  · show Act.put _ (some 80) _ = _
                    simp only [Act.put, List.setIfInBounds_toArray, List.set_cons_zero, List.set_cons_succ, i64_w, i32_w]
                    rfl
                  refine pure_ (i := 22) (N := some 81) (v := ?_) (a' := ?_) #[true, true, true, true, true, true, true, true, true, true, true, true, true, true, true, true, true, true, true, true, true, true, true, false, false, false, false, false, false, false, false, false, false, false, false, false, false, false, false, false, false, false, false, false, false, false, false, false, false, false, false, false, false, false, false, false, false, false, false, false, false, false, false, false, false, false] rfl rfl (any_of HT_.out (by kernel_rfl)) (fun _ _ _ h => h) (Or.inl ⟨by rfl, ?_⟩) ?_ ?_
                  rotate_left
                  · intro w'
                    go_simp
                    with_reducible rfl
                  rotate_left
                  · simp only [Act.put, List.setIfInBounds_toArray, List.set_cons_zero, List.set_cons_succ, i64_w, i32_w]
                    rfl
                  refine pure_ (i := 23) (N := some 82) (v := ?_) (a' := ?_) #[true, true, true, true, true, true, true, true, true, true, true, true, true, true, true, true, true, true, true, true, true, true, true, true, false, false, false, false, false, false, false, false, false, false, false, false, false, false, false, false, false, false, false, false, false, false, false, false, false, false, false, false, false, false, false, false, false, false, false, false, false, false, false, false, false, false] rfl rfl (any_of HT_.out (by kernel_rfl)) (fun _ _ _ h => h) (Or.inl ⟨by rfl, ?_⟩) ?_ ?_
                  rotate_left
                  · intro w'
                    go_simp
                    with_reducible rfl
                  rotate_left
                  · simp only [Act.put, List.setIfInBounds_toArray, List.set_cons_zero, List.set_cons_succ, i64_w, i32_w]
                    rfl
                  refine pure_ (i := 24) (N := some 83) (v := ?_) (a' := ?_) #[true, true, true, true, true, true, true, true, true, true, true, true, true, true, true, true, true, true, true, true, true, true, true, true, true, false, false, false, false, false, false, false, false, false, false, false, false, false, false, false, false, false, false, false, false, false, false, false, false, false, false, false, false, false, false, false, false, false, false, false, false, false, false, false, false, false] rfl rfl (any_of HT_.out (by kernel_rfl)) (fun _ _ _ h => h) (Or.inl ⟨by rfl, ?_⟩) ?_ ?_
                  rotate_left
                  · intro w'
                    go_simp
                    with_reducible rfl
                  rotate_left
                  · simp only [Act.put, List.setIfInBounds_toArray, List.set_cons_zero, List.set_cons_succ, i64_w, i32_w]
                    rfl
                  refine pure_ (i := 28) (N := some 87) (v := ?_) (a' := ?_) #[true, true, true, true, true, true, true, true, true, true, true, true, true, true, true, true, true, true, true, true, true, true, true, true, true, false, false, false, true, false, false, false, false, false, false, false, false, false, false, false, false, false, false, false, false, false, false, false, false, false, false, false, false, false, false, false, false, false, false, false, false, false, false, false, false, false] rfl rfl (any_of HT_.out (by kernel_rfl)) (fun _ _ _ h => h) (Or.inl ⟨by rfl, ?_⟩) ?_ ?_
                  rotate_left
                  · intro w'
                    go_simp
                    with_reducible rfl
                  rotate_left
                  · simp only [Act.put, List.setIfInBounds_toArray, List.set_cons_zero, List.set_cons_succ, i64_w, i32_w]
                    rfl
                  refine pure_ (i := 29) (N := some 88) (v := ?_) (a' := ?_) #[true, true, true, true, true, true, true, true, true, true, true, true, true, true, true, true, true, true, true, true, true, true, true, true, true, false, false, false, true, true, false, false, false, false, false, false, false, false, false, false, false, false, false, false, false, false, false, false, false, false, false, false, false, false, false, false, false, false, false, false, false, false, false, false, false, false] rfl rfl (any_of HT_.out (by kernel_rfl)) (fun _ _ _ h => h) (Or.inl ⟨by rfl, ?_⟩) ?_ ?_
                  rotate_left
                  · intro w'
                    go_simp
                    with_reducible rfl
                  rotate_left
                  · simp only [Act.put, List.setIfInBounds_toArray, List.set_cons_zero, List.set_cons_succ, i64_w, i32_w]
                    rfl
                  refine pure_ (i := 30) (N := some 89) (v := ?_) (a' := ?_) #[true, true, true, true, true, true, true, true, true, true, true, true, true, true, true, true, true, true, true, true, true, true, true, true, true, false, false, false, true, true, true, false, false, false, false, false, false, false, false, false, false, false, false, false, false, false, false, false, false, false, false, false, false, false, false, false, false, false, false, false, false, false, false, false, false, false] rfl rfl (any_of HT_.out (by kernel_rfl)) (fun _ _ _ h => h) (Or.inl ⟨by rfl, ?_⟩) ?_ ?_
                  rotate_left
                  · intro w'
                    go_simp
                    with_reducible rfl
                  rotate_left
                  · simp only [Act.put, List.setIfInBounds_toArray, List.set_cons_zero, List.set_cons_succ, i64_w, i32_w]
                    rfl
                  refine pure_ (i := 31) (N := some 90) (v := ?_) (a' := ?_) #[true, true, true, true, true, true, true, true, true, true, true, true, true, true, true, true, true, true, true, true, true, true, true, true, true, false, false, false, true, true, true, true, false, false, false, false, false, false, false, false, false, false, false, false, false, false, false, false, false, false, false, false, false, false, false, false, false, false, false, false, false, false, false, false, false, false] rfl rfl (any_of HT_.out (by kernel_rfl)) (fun _ _ _ h => h) (Or.inl ⟨by rfl, ?_⟩) ?_ ?_
                  rotate_left
                  · intro w'
                    go_simp
                    with_reducible rfl
                  rotate_left
                  · simp only [Act.put, List.setIfInBounds_toArray, List.set_cons_zero, List.set_cons_succ, i64_w, i32_w]
                    rfl
                  refine pure_ (i := 32) (N := some 91) (v := ?_) (a' := ?_) #[true, true, true, true, true, true, true, true, true, true, true, true, true, true, true, true, true, true, true, true, true, true, true, true, true, false, false, false, true, true, true, true, true, false, false, false, false, false, false, false, false, false, false, false, false, false, false, false, false, false, false, false, false, false, false, false, false, false, false, false, false, false, false, false, false, false] rfl rfl (any_of HT_.out (by kernel_rfl)) (fun _ _ _ h => h) (Or.inl ⟨by rfl, ?_⟩) ?_ ?_
                  rotate_left
                  · intro w'
                    go_simp
                    with_reducible rfl
                  rotate_left
                  · simp only [Act.put, List.setIfInBounds_toArray, List.set_cons_zero, List.set_cons_succ, i64_w, i32_w]
                    rfl
                  refine pure_ (i := 33) (N := some 92) (v := ?_) (a' := ?_) #[true, true, true, true, true, true, true, true, true, true, true, true, true, true, true, true, true, true, true, true, true, true, true, true, true, false, false, false, true, true, true, true, true, true, false, false, false, false, false, false, false, false, false, false, false, false, false, false, false, false, false, false, false, false, false, false, false, false, false, false, false, false, false, false, false, false] rfl rfl (any_of HT_.out (by kernel_rfl)) (fun _ _ _ h => h) (Or.inl ⟨by rfl, ?_⟩) ?_ ?_
                  rotate_left
                  · intro w'
                    go_simp
                    with_reducible rfl
                  rotate_left
                  · simp only [Act.put, List.setIfInBounds_toArray, List.set_cons_zero, List.set_cons_succ, i64_w, i32_w]
                    rfl
                  refine take_ (i := 25) (N := some 84) (v := ?_) (a' := ?_) #[true, true, true, true, true, true, true, true, true, true, true, true, true, true, true, true, true, true, true, true, true, true, true, true, true, true, false, false, true, true, true, true, true, true, false, false, false, false, false, false, false, false, false, false, false, false, false, false, false, false, false, false, false, false, false, false, false, false, false, false, false, false, false, false, false, false] rfl rfl (take_ofW HT_.out HW_.out (by kernel_rfl)) (fun _ _ _ h => h) (Or.inl ⟨by rfl, ?_⟩) hHeld ?_ ?_
                  rotate_left
                  · rintro w' ⟨s0, s1, s2, s3, s4, s5, s6, s7, s8, s9, s10, s11, s12, s13, s14, s15⟩
                    go_simp
                    with_reducible rfl
                  rotate_left
                  · simp only [Act.put, List.setIfInBounds_toArray, List.set_cons_zero, List.set_cons_succ, i64_w, i32_w]
                    rfl
                  refine take_ (i := 26) (N := some 85) (v := ?_) (a' := ?_) #[true, true, true, true, true, true, true, true, true, true, true, true, true, true, true, true, true, true, true, true, true, true, true, true, true, true, true, false, true, true, true, true, true, true, false, false, false, false, false, false, false, false, false, false, false, false, false, false, false, false, false, false, false, false, false, false, false, false, false, false, false, false, false, false, false, false] rfl rfl (take_ofW HT_.out HW_.out (by kernel_rfl)) (fun _ _ _ h => h) (Or.inl ⟨by rfl, ?_⟩) hHeld ?_ ?_
                  rotate_left
                  · rintro w' ⟨s0, s1, s2, s3, s4, s5, s6, s7, s8, s9, s10, s11, s12, s13, s14, s15⟩
                    go_simp
                    with_reducible rfl
                  rotate_left
                  · simp only [Act.put, List.setIfInBounds_toArray, List.set_cons_zero, List.set_cons_succ, i64_w, i32_w]
                    rfl
                  refine take_ (i := 27) (N := some 86) (v := ?_) (a' := ?_) #[true, true, true, true, true, true, true, true, true, true, true, true, true, true, true, true, true, true, true, true, true, true, true, true, true, true, true, true, true, true, true, true, true, true, false, false, false, false, false, false, false, false, false, false, false, false, false, false, false, false, false, false, false, false, false, false, false, false, false, false, false, false, false, false, false, false] rfl rfl (take_ofW HT_.out HW_.out (by kernel_rfl)) (fun _ _ _ h => h) (Or.inl ⟨by rfl, ?_⟩) hHeld ?_ ?_
                  rotate_left
                  · rintro w' ⟨s0, s1, s2, s3, s4, s5, s6, s7, s8, s9, s10, s11, s12, s13, s14, s15⟩
                    go_simp
                    with_reducible rfl
                  rotate_left
                  · simp only [Act.put, List.setIfInBounds_toArray, List.set_cons_zero, List.set_cons_succ, i64_w, i32_w]
                    rfl
                  refine one_ (i := 34) (N := some 93) #[true, true, true, true, true, true, true, true, true, true, true, true, true, true, true, true, true, true, true, true, true, true, true, true, true, true, true, true, true, true, true, true, true, true, true, false, false, false, false, false, false, false, false, false, false, false, false, false, false, false, false, false, false, false, false, false, false, false, false, false, false, false, false, false, false, false] rfl rfl (one_of HT_.out (by kernel_rfl)) (by decide) (fun K hK => ?_)
                  refine goes_ Try.func13 (by kernel_rfl) rfl #[.agg #[.int .i64 t223, .int .i64 t224, .int .i64 t225, .int .i64 t226, .int .i64 t227, .slice Ao33 t228.length co33], .agg #[.int .u8 a4_0, .int .u8 a4_1], .int .u16 (IntKind.u16.wrap (wrap64 (32768 + (Int.tmod (wrap64 ((wrap64 (a5)) + (ji11))) 16384))))] (by rfl) rfl rfl (by (try simp only [List.map_toArray, List.map_cons, List.map_nil]); first | done | (simp only [hji11]; rfl) | rfl | (simp only [List.length_drop, List.length_take]; rfl)) ?_
                  with_reducible refine (bank_Where.calls k t223 t224 t225 t226 t227 _ _ t228 a4_0 a4_1 (IntKind.u16.wrap (wrap64 (32768 + (Int.tmod (wrap64 ((wrap64 (a5)) + (ji11))) 16384)))) t248 t249 _ ?side1 ?side2 A21.out).mono ?_
                  (case side1 => repeat (first | exact (Kd.R_reads' HO230.out).2.2 | (with_reducible refine Kd.C_alloc ?_ _) | (with_reducible refine Kd.C_drewN ?_ _) | (with_reducible refine Kd.C_drew ?_)))
                  (case side2 => exact (Kd.R_reads' HO230.out).2.1)
                  rintro e w71 ⟨rfl, hb⟩
                  refine ⟨_, rfl, ?_⟩
                  have n0_ := Aside0.mk (Kd.R_below (by (with_reducible repeat (first | apply Kd.R_alloc | apply Kd.R_drewN | apply Kd.R_drew)); exact HO230.out) hb)
                  have n1_ := Aside0.mk (blk_below (g := gb221) (o := .cells #[.int .u8 a4_0, .int .u8 a4_1] 25 (0, 0)) (by (with_reducible repeat (first | refine blk_drewN ?_ _ | refine blk_drew ?_ | refine blk_alloc ?_ _)); exact BK221.out) hb)
                  have n2_ := Aside0.mk (blk_below (g := gb231) (o := .cells #[.int .i64 t223, .int .i64 t224, .int .i64 t225, .int .i64 t226, .int .i64 t227, .slice Ao33 t228.length co33] 30 (0, 0)) (by (with_reducible repeat (first | refine blk_drewN ?_ _ | refine blk_drew ?_ | refine blk_alloc ?_ _)); exact BK231.out) hb)
                  have n3_ := Aside0.mk (blk_below (g := gb234) (o := .cells #[.int .i64 t232, .int .i64 t233] 34 (0, 0)) (by (with_reducible repeat (first | refine blk_drewN ?_ _ | refine blk_drew ?_ | refine blk_alloc ?_ _)); exact BK234.out) hb)
                  have n4_ := Aside0.mk (blk_below (g := gb237) (o := .cells #[.int .i64 t235, .int .i64 t236] 34 (0, 0)) (by (with_reducible repeat (first | refine blk_drewN ?_ _ | refine blk_drew ?_ | refine blk_alloc ?_ _)); exact BK237.out) hb)
                  have n5_ := Aside0.mk (blk_below (g := gb240) (o := .cells #[.int .i64 t238, .int .i64 t239] 34 (0, 0)) (by (with_reducible repeat (first | refine blk_drewN ?_ _ | refine blk_drew ?_ | refine blk_alloc ?_ _)); exact BK240.out) hb)
                  have n6_ := Aside0.mk (blk_below (g := gb243) (o := .cells #[.int .i64 t241, .int .i64 t242] 34 (0, 0)) (by (with_reducible repeat (first | refine blk_drewN ?_ _ | refine blk_drew ?_ | refine blk_alloc ?_ _)); exact BK243.out) hb)
                  have n7_ := Aside0.mk (below_step (by repeat (first | (with_reducible first | exact HB.out | apply below_alloc | apply pw_below_drewN | apply below_drew1 | refine below_set ?_ GE221.out | refine below_set ?_ GE231.out | refine below_set ?_ GE234.out | refine below_set ?_ GE237.out | refine below_set ?_ GE240.out | refine below_set ?_ GE243.out) | exact HB.out)) hb)
                  clear HO230
                  clear BK221
                  clear BK231
                  clear BK234
                  clear BK237
                  clear BK240
                  clear BK243
                  clear HB
                  have HO230 := n0_
                  have BK221 := n1_
                  have BK231 := n2_
                  have BK234 := n3_
                  have BK237 := n4_
                  have BK240 := n5_
                  have BK243 := n6_
                  have HB := n7_
                  clear n0_ n1_ n2_ n3_ n4_ n5_ n6_ n7_
                  (try clear hb)
                  (try clear hb2)
                  (try clear hk)
                  (try clear hi)
                  refine hK.out _ _ ⟨(blk_cell BK234.out 0).trans rfl, (blk_cell BK234.out 1).trans rfl, (blk_cell BK231.out 0).trans rfl, (blk_cell BK231.out 1).trans rfl, (blk_cell BK231.out 2).trans rfl, (blk_cell BK231.out 3).trans rfl, (blk_cell BK231.out 4).trans rfl, (blk_cell BK231.out 5).trans rfl, (blk_cell BK221.out 0).trans rfl, (blk_cell BK221.out 1).trans rfl, (blk_cell BK237.out 0).trans rfl, (blk_cell BK237.out 1).trans rfl, (blk_cell BK240.out 0).trans rfl, (blk_cell BK240.out 1).trans rfl, (blk_cell BK243.out 0).trans rfl, (blk_cell BK243.out 1).trans rfl⟩ (fun hHeld => ?_)
                  clear hK K
                  refine norm_ (a' := ?_) ?_ ?_
                  rotate_left
                  · show Act.put _ (some 93) _ = _
                    simp only [Act.put, List.setIfInBounds_toArray, List.set_cons_zero, List.set_cons_succ, i64_w, i32_w]
                    rfl
                  refine pure_ (i := 35) (N := some 94) (v := ?_) (a' := ?_) #[true, true, true, true, true, true, true, true, true, true, true, true, true, true, true, true, true, true, true, true, true, true, true, true, true, true, true, true, true, true, true, true, true, true, true, true, false, false, false, false, false, false, false, false, false, false, false, false, false, false, false, false, false, false, false, false, false, false, false, false, false, false, false, false, false, false] rfl rfl (any_of HT_.out (by kernel_rfl)) (fun _ _ _ h => h) (Or.inl ⟨by rfl, ?_⟩) ?_ ?_
                  rotate_left
                  · intro w'
                    go_simp
                    with_reducible rfl
                  rotate_left
                  · simp only [Act.put, List.setIfInBounds_toArray, List.set_cons_zero, List.set_cons_succ, i64_w, i32_w]
                    rfl
                  refine pure_ (i := 36) (N := some 95) (v := ?_) (a' := ?_) #[true, true, true, true, true, true, true, true, true, true, true, true, true, true, true, true, true, true, true, true, true, true, true, true, true, true, true, true, true, true, true, true, true, true, true, true, true, false, false, false, false, false, false, false, false, false, false, false, false, false, false, false, false, false, false, false, false, false, false, false, false, false, false, false, false, false] rfl rfl (any_of HT_.out (by kernel_rfl)) (fun _ _ _ h => h) (Or.inl ⟨by rfl, ?_⟩) ?_ ?_
                  rotate_left
                  · intro w'
                    go_simp
                    with_reducible rfl
                  rotate_left
                  · simp only [Act.put, List.setIfInBounds_toArray, List.set_cons_zero, List.set_cons_succ, i64_w, i32_w]
                    rfl
                  refine pure_ (i := 37) (N := some 96) (v := ?_) (a' := ?_) #[true, true, true, true, true, true, true, true, true, true, true, true, true, true, true, true, true, true, true, true, true, true, true, true, true, true, true, true, true, true, true, true, true, true, true, true, true, true, false, false, false, false, false, false, false, false, false, false, false, false, false, false, false, false, false, false, false, false, false, false, false, false, false, false, false, false] rfl rfl (any_of HT_.out (by kernel_rfl)) (fun _ _ _ h => h) (Or.inl ⟨by rfl, ?_⟩) ?_ ?_
                  rotate_left
                  · intro w'
                    go_simp
                    with_reducible rfl
                  rotate_left
                  · simp only [Act.put, List.setIfInBounds_toArray, List.set_cons_zero, List.set_cons_succ, i64_w, i32_w]
                    rfl
                  refine pure_ (i := 41) (N := some 100) (v := ?_) (a' := ?_) #[true, true, true, true, true, true, true, true, true, true, true, true, true, true, true, true, true, true, true, true, true, true, true, true, true, true, true, true, true, true, true, true, true, true, true, true, true, true, false, false, false, true, false, false, false, false, false, false, false, false, false, false, false, false, false, false, false, false, false, false, false, false, false, false, false, false] rfl rfl (any_of HT_.out (by kernel_rfl)) (fun _ _ _ h => h) (Or.inl ⟨by rfl, ?_⟩) ?_ ?_
                  rotate_left
                  · intro w'
                    go_simp
                    with_reducible rfl
                  rotate_left
                  · simp only [Act.put, List.setIfInBounds_toArray, List.set_cons_zero, List.set_cons_succ, i64_w, i32_w]
                    rfl
                  refine pure_ (i := 42) (N := some 101) (v := ?_) (a' := ?_) #[true, true, true, true, true, true, true, true, true, true, true, true, true, true, true, true, true, true, true, true, true, true, true, true, true, true, true, true, true, true, true, true, true, true, true, true, true, true, false, false, false, true, true, false, false, false, false, false, false, false, false, false, false, false, false, false, false, false, false, false, false, false, false, false, false, false] rfl rfl (any_of HT_.out (by kernel_rfl)) (fun _ _ _ h => h) (Or.inl ⟨by rfl, ?_⟩) ?_ ?_
                  rotate_left
                  · intro w'
                    go_simp
                    with_reducible rfl
                  rotate_left
                  · simp only [Act.put, List.setIfInBounds_toArray, List.set_cons_zero, List.set_cons_succ, i64_w, i32_w]
                    rfl
                  refine pure_ (i := 43) (N := some 102) (v := ?_) (a' := ?_) #[true, true, true, true, true, true, true, true, true, true, true, true, true, true, true, true, true, true, true, true, true, true, true, true, true, true, true, true, true, true, true, true, true, true, true, true, true, true, false, false, false, true, true, true, false, false, false, false, false, false, false, false, false, false, false, false, false, false, false, false, false, false, false, false, false, false] rfl rfl (any_of HT_.out (by kernel_rfl)) (fun _ _ _ h => h) (Or.inl ⟨by rfl, ?_⟩) ?_ ?_
                  rotate_left
                  · intro w'
                    go_simp
                    with_reducible rfl
                  rotate_left
                  · simp only [Act.put, List.setIfInBounds_toArray, List.set_cons_zero, List.set_cons_succ, i64_w, i32_w]
                    rfl
                  refine pure_ (i := 44) (N := some 103) (v := ?_) (a' := ?_) #[true, true, true, true, true, true, true, true, true, true, true, true, true, true, true, true, true, true, true, true, true, true, true, true, true, true, true, true, true, true, true, true, true, true, true, true, true, true, false, false, false, true, true, true, true, false, false, false, false, false, false, false, false, false, false, false, false, false, false, false, false, false, false, false, false, false] rfl rfl (any_of HT_.out (by kernel_rfl)) (fun _ _ _ h => h) (Or.inl ⟨by rfl, ?_⟩) ?_ ?_
                  rotate_left
                  · intro w'
                    go_simp
                    with_reducible rfl
                  rotate_left
                  · simp only [Act.put, List.setIfInBounds_toArray, List.set_cons_zero, List.set_cons_succ, i64_w, i32_w]
                    rfl
                  refine pure_ (i := 45) (N := some 104) (v := ?_) (a' := ?_) #[true, true, true, true, true, true, true, true, true, true, true, true, true, true, true, true, true, true, true, true, true, true, true, true, true, true, true, true, true, true, true, true, true, true, true, true, true, true, false, false, false, true, true, true, true, true, false, false, false, false, false, false, false, false, false, false, false, false, false, false, false, false, false, false, false, false] rfl rfl (any_of HT_.out (by kernel_rfl)) (fun _ _ _ h => h) (Or.inl ⟨by rfl, ?_⟩) ?_ ?_
                  rotate_left
                  · intro w'
                    go_simp
                    with_reducible rfl
                  rotate_left
                  · simp only [Act.put, List.setIfInBounds_toArray, List.set_cons_zero, List.set_cons_succ, i64_w, i32_w]
                    rfl
                  refine pure_ (i := 46) (N := some 105) (v := ?_) (a' := ?_) #[true, true, true, true, true, true, true, true, true, true, true, true, true, true, true, true, true, true, true, true, true, true, true, true, true, true, true, true, true, true, true, true, true, true, true, true, true, true, false, false, false, true, true, true, true, true, true, false, false, false, false, false, false, false, false, false, false, false, false, false, false, false, false, false, false, false] rfl rfl (any_of HT_.out (by kernel_rfl)) (fun _ _ _ h => h) (Or.inl ⟨by rfl, ?_⟩) ?_ ?_
                  rotate_left
                  · intro w'
                    go_simp
                    with_reducible rfl
                  rotate_left
                  · simp only [Act.put, List.setIfInBounds_toArray, List.set_cons_zero, List.set_cons_succ, i64_w, i32_w]
                    rfl
                  refine take_ (i := 38) (N := some 97) (v := ?_) (a' := ?_) #[true, true, true, true, true, true, true, true, true, true, true, true, true, true, true, true, true, true, true, true, true, true, true, true, true, true, true, true, true, true, true, true, true, true, true, true, true, true, true, false, false, true, true, true, true, true, true, false, false, false, false, false, false, false, false, false, false, false, false, false, false, false, false, false, false, false] rfl rfl (take_ofW HT_.out HW_.out (by kernel_rfl)) (fun _ _ _ h => h) (Or.inl ⟨by rfl, ?_⟩) hHeld ?_ ?_
                  rotate_left
                  · rintro w' ⟨s0, s1, s2, s3, s4, s5, s6, s7, s8, s9, s10, s11, s12, s13, s14, s15⟩
                    go_simp
                    with_reducible rfl
                  rotate_left
                  · simp only [Act.put, List.setIfInBounds_toArray, List.set_cons_zero, List.set_cons_succ, i64_w, i32_w]
                    rfl
                  refine take_ (i := 39) (N := some 98) (v := ?_) (a' := ?_) #[true, true, true, true, true, true, true, true, true, true, true, true, true, true, true, true, true, true, true, true, true, true, true, true, true, true, true, true, true, true, true, true, true, true, true, true, true, true, true, true, false, true, true, true, true, true, true, false, false, false, false, false, false, false, false, false, false, false, false, false, false, false, false, false, false, false] rfl rfl (take_ofW HT_.out HW_.out (by kernel_rfl)) (fun _ _ _ h => h) (Or.inl ⟨by rfl, ?_⟩) hHeld ?_ ?_
                  rotate_left
                  · rintro w' ⟨s0, s1, s2, s3, s4, s5, s6, s7, s8, s9, s10, s11, s12, s13, s14, s15⟩
                    go_simp
                    with_reducible rfl
                  rotate_left
                  · simp only [Act.put, List.setIfInBounds_toArray, List.set_cons_zero, List.set_cons_succ, i64_w, i32_w]
                    rfl
                  refine take_ (i := 40) (N := some 99) (v := ?_) (a' := ?_) #[true, true, true, true, true, true, true, true, true, true, true, true, true, true, true, true, true, true, true, true, true, true, true, true, true, true, true, true, true, true, true, true, true, true, true, true, true, true, true, true, true, true, true, true, true, true, true, false, false, false, false, false, false, false, false, false, false, false, false, false, false, false, false, false, false, false] rfl rfl (take_ofW HT_.out HW_.out (by kernel_rfl)) (fun _ _ _ h => h) (Or.inl ⟨by rfl, ?_⟩) hHeld ?_ ?_
                  rotate_left
                  · rintro w' ⟨s0, s1, s2, s3, s4, s5, s6, s7, s8, s9, s10, s11, s12, s13, s14, s15⟩
                    go_simp
                    with_reducible rfl
                  rotate_left
                  · simp only [Act.put, List.setIfInBounds_toArray, List.set_cons_zero, List.set_cons_succ, i64_w, i32_w]
                    rfl
                  refine one_ (i := 47) (N := some 106) #[true, true, true, true, true, true, true, true, true, true, true, true, true, true, true, true, true, true, true, true, true, true, true, true, true, true, true, true, true, true, true, true, true, true, true, true, true, true, true, true, true, true, true, true, true, true, true, true, false, false, false, false, false, false, false, false, false, false, false, false, false, false, false, false, false, false] rfl rfl (one_of HT_.out (by kernel_rfl)) (by decide) (fun K hK => ?_)
                  refine goes_ Try.func13 (by kernel_rfl) rfl #[.agg #[.int .i64 t223, .int .i64 t224, .int .i64 t225, .int .i64 t226, .int .i64 t227, .slice Ao33 t228.length co33], .agg #[.int .u8 a4_0, .int .u8 a4_1], .int .u16 (IntKind.u16.wrap (wrap64 (49152 + (Int.tmod (wrap64 ((wrap64 (a5)) + (ji11))) 16384))))] (by rfl) rfl rfl (by (try simp only [List.map_toArray, List.map_cons, List.map_nil]); first | done | (simp only [hji11]; rfl) | rfl | (simp only [List.length_drop, List.length_take]; rfl)) ?_
                  with_reducible refine (bank_Where.calls k t223 t224 t225 t226 t227 _ _ t228 a4_0 a4_1 (IntKind.u16.wrap (wrap64 (49152 + (Int.tmod (wrap64 ((wrap64 (a5)) + (ji11))) 16384)))) t250 t251 _ ?side1 ?side2 A23.out).mono ?_
                  (case side1 => repeat (first | exact (Kd.R_reads' HO230.out).2.2 | (with_reducible refine Kd.C_alloc ?_ _) | (with_reducible refine Kd.C_drewN ?_ _) | (with_reducible refine Kd.C_drew ?_)))
                  (case side2 => exact (Kd.R_reads' HO230.out).2.1)
                  rintro e w72 ⟨rfl, hb⟩
                  refine ⟨_, rfl, ?_⟩
                  have n0_ := Aside0.mk (Kd.R_below (by (with_reducible repeat (first | apply Kd.R_alloc | apply Kd.R_drewN | apply Kd.R_drew)); exact HO230.out) hb)
                  have n1_ := Aside0.mk (blk_below (g := gb221) (o := .cells #[.int .u8 a4_0, .int .u8 a4_1] 25 (0, 0)) (by (with_reducible repeat (first | refine blk_drewN ?_ _ | refine blk_drew ?_ | refine blk_alloc ?_ _)); exact BK221.out) hb)
                  have n2_ := Aside0.mk (blk_below (g := gb231) (o := .cells #[.int .i64 t223, .int .i64 t224, .int .i64 t225, .int .i64 t226, .int .i64 t227, .slice Ao33 t228.length co33] 30 (0, 0)) (by (with_reducible repeat (first | refine blk_drewN ?_ _ | refine blk_drew ?_ | refine blk_alloc ?_ _)); exact BK231.out) hb)
                  have n3_ := Aside0.mk (blk_below (g := gb234) (o := .cells #[.int .i64 t232, .int .i64 t233] 34 (0, 0)) (by (with_reducible repeat (first | refine blk_drewN ?_ _ | refine blk_drew ?_ | refine blk_alloc ?_ _)); exact BK234.out) hb)
                  have n4_ := Aside0.mk (blk_below (g := gb237) (o := .cells #[.int .i64 t235, .int .i64 t236] 34 (0, 0)) (by (with_reducible repeat (first | refine blk_drewN ?_ _ | refine blk_drew ?_ | refine blk_alloc ?_ _)); exact BK237.out) hb)
                  have n5_ := Aside0.mk (blk_below (g := gb240) (o := .cells #[.int .i64 t238, .int .i64 t239] 34 (0, 0)) (by (with_reducible repeat (first | refine blk_drewN ?_ _ | refine blk_drew ?_ | refine blk_alloc ?_ _)); exact BK240.out) hb)
                  have n6_ := Aside0.mk (blk_below (g := gb243) (o := .cells #[.int .i64 t241, .int .i64 t242] 34 (0, 0)) (by (with_reducible repeat (first | refine blk_drewN ?_ _ | refine blk_drew ?_ | refine blk_alloc ?_ _)); exact BK243.out) hb)
                  have n7_ := Aside0.mk (below_step (by repeat (first | (with_reducible first | exact HB.out | apply below_alloc | apply pw_below_drewN | apply below_drew1 | refine below_set ?_ GE221.out | refine below_set ?_ GE231.out | refine below_set ?_ GE234.out | refine below_set ?_ GE237.out | refine below_set ?_ GE240.out | refine below_set ?_ GE243.out) | exact HB.out)) hb)
                  clear HO230
                  clear BK221
                  clear BK231
                  clear BK234
                  clear BK237
                  clear BK240
                  clear BK243
                  clear HB
                  have HO230 := n0_
                  have BK221 := n1_
                  have BK231 := n2_
                  have BK234 := n3_
                  have BK237 := n4_
                  have BK240 := n5_
                  have BK243 := n6_
                  have HB := n7_
                  clear n0_ n1_ n2_ n3_ n4_ n5_ n6_ n7_
                  (try clear hb)
                  (try clear hb2)
                  (try clear hk)
                  (try clear hi)
                  refine hK.out _ _ ⟨(blk_cell BK234.out 0).trans rfl, (blk_cell BK234.out 1).trans rfl, (blk_cell BK231.out 0).trans rfl, (blk_cell BK231.out 1).trans rfl, (blk_cell BK231.out 2).trans rfl, (blk_cell BK231.out 3).trans rfl, (blk_cell BK231.out 4).trans rfl, (blk_cell BK231.out 5).trans rfl, (blk_cell BK221.out 0).trans rfl, (blk_cell BK221.out 1).trans rfl, (blk_cell BK237.out 0).trans rfl, (blk_cell BK237.out 1).trans rfl, (blk_cell BK240.out 0).trans rfl, (blk_cell BK240.out 1).trans rfl, (blk_cell BK243.out 0).trans rfl, (blk_cell BK243.out 1).trans rfl⟩ (fun hHeld => ?_)
                  clear hK K
                  refine norm_ (a' := ?_) ?_ ?_
                  rotate_left
                  · show Act.put _ (some 106) _ = _
                    simp only [Act.put, List.setIfInBounds_toArray, List.set_cons_zero, List.set_cons_succ, i64_w, i32_w]
                    rfl
                  refine pure_ (i := 48) (N := some 107) (v := ?_) (a' := ?_) #[true, true, true, true, true, true, true, true, true, true, true, true, true, true, true, true, true, true, true, true, true, true, true, true, true, true, true, true, true, true, true, true, true, true, true, true, true, true, true, true, true, true, true, true, true, true, true, true, true, false, false, false, false, false, false, false, false, false, false, false, false, false, false, false, false, false] rfl rfl (any_of HT_.out (by kernel_rfl)) (fun _ _ _ h => h) (Or.inl ⟨by rfl, ?_⟩) ?_ ?_
                  rotate_left
                  · intro w'
                    go_simp
                    with_reducible rfl
                  rotate_left
                  · simp only [Act.put, List.setIfInBounds_toArray, List.set_cons_zero, List.set_cons_succ, i64_w, i32_w]
                    rfl
                  refine pure_ (i := 49) (N := some 108) (v := ?_) (a' := ?_) #[true, true, true, true, true, true, true, true, true, true, true, true, true, true, true, true, true, true, true, true, true, true, true, true, true, true, true, true, true, true, true, true, true, true, true, true, true, true, true, true, true, true, true, true, true, true, true, true, true, true, false, false, false, false, false, false, false, false, false, false, false, false, false, false, false, false] rfl rfl (any_of HT_.out (by kernel_rfl)) (fun _ _ _ h => h) (Or.inl ⟨by rfl, ?_⟩) ?_ ?_
                  rotate_left
                  · intro w'
                    go_simp
                    with_reducible rfl
                  rotate_left
                  · simp only [Act.put, List.setIfInBounds_toArray, List.set_cons_zero, List.set_cons_succ, i64_w, i32_w]
                    rfl
                  refine pure_ (i := 50) (N := some 109) (v := ?_) (a' := ?_) #[true, true, true, true, true, true, true, true, true, true, true, true, true, true, true, true, true, true, true, true, true, true, true, true, true, true, true, true, true, true, true, true, true, true, true, true, true, true, true, true, true, true, true, true, true, true, true, true, true, true, true, false, false, false, false, false, false, false, false, false, false, false, false, false, false, false] rfl rfl (any_of HT_.out (by kernel_rfl)) (fun _ _ _ h => h) (Or.inl ⟨by rfl, ?_⟩) ?_ ?_
                  rotate_left
                  · intro w'
                    go_simp
                    with_reducible rfl
                  rotate_left
                  · simp only [Act.put, List.setIfInBounds_toArray, List.set_cons_zero, List.set_cons_succ, i64_w, i32_w]
                    rfl
                  refine pure_ (i := 51) (N := some 110) (v := ?_) (a' := ?_) #[true, true, true, true, true, true, true, true, true, true, true, true, true, true, true, true, true, true, true, true, true, true, true, true, true, true, true, true, true, true, true, true, true, true, true, true, true, true, true, true, true, true, true, true, true, true, true, true, true, true, true, true, false, false, false, false, false, false, false, false, false, false, false, false, false, false] rfl rfl (any_of HT_.out (by kernel_rfl)) (fun _ _ _ h => h) (Or.inl ⟨by rfl, ?_⟩) ?_ ?_
                  rotate_left
                  · intro w'
                    go_simp
                    with_reducible rfl
                  rotate_left
                  · simp only [Act.put, List.setIfInBounds_toArray, List.set_cons_zero, List.set_cons_succ, i64_w, i32_w]
                    rfl
                  refine take_ (i := 52) (N := some 111) (v := ?_) (a' := ?_) #[true, true, true, true, true, true, true, true, true, true, true, true, true, true, true, true, true, true, true, true, true, true, true, true, true, true, true, true, true, true, true, true, true, true, true, true, true, true, true, true, true, true, true, true, true, true, true, true, true, true, true, true, true, false, false, false, false, false, false, false, false, false, false, false, false, false] rfl rfl (take_ofW HT_.out HW_.out (by kernel_rfl)) (fun _ _ _ h => h) (Or.inl ⟨by rfl, ?_⟩) hHeld ?_ ?_
                  rotate_left
                  · rintro w' ⟨s0, s1, s2, s3, s4, s5, s6, s7, s8, s9, s10, s11, s12, s13, s14, s15⟩
                    go_simp
                    with_reducible rfl
                  rotate_left
                  · simp only [Act.put, List.setIfInBounds_toArray, List.set_cons_zero, List.set_cons_succ, i64_w, i32_w]
                    rfl
                  refine pure_ (i := 53) (N := some 112) (v := ?_) (a' := ?_) #[true, true, true, true, true, true, true, true, true, true, true, true, true, true, true, true, true, true, true, true, true, true, true, true, true, true, true, true, true, true, true, true, true, true, true, true, true, true, true, true, true, true, true, true, true, true, true, true, true, true, true, true, true, true, false, false, false, false, false, false, false, false, false, false, false, false] rfl rfl (any_of HT_.out (by kernel_rfl)) (fun _ _ _ h => h) (Or.inl ⟨by rfl, ?_⟩) ?_ ?_
                  rotate_left
                  · intro w'
                    go_simp
                    with_reducible rfl
                  rotate_left
                  · simp only [Act.put, List.setIfInBounds_toArray, List.set_cons_zero, List.set_cons_succ, i64_w, i32_w]
                    rfl
                  refine pure_ (i := 54) (N := some 113) (v := ?_) (a' := ?_) #[true, true, true, true, true, true, true, true, true, true, true, true, true, true, true, true, true, true, true, true, true, true, true, true, true, true, true, true, true, true, true, true, true, true, true, true, true, true, true, true, true, true, true, true, true, true, true, true, true, true, true, true, true, true, true, false, false, false, false, false, false, false, false, false, false, false] rfl rfl (any_of HT_.out (by kernel_rfl)) (fun _ _ _ h => h) (Or.inl ⟨by rfl, ?_⟩) ?_ ?_
                  rotate_left
                  · intro w'
                    go_simp
                    with_reducible rfl
                  rotate_left
                  · simp only [Act.put, List.setIfInBounds_toArray, List.set_cons_zero, List.set_cons_succ, i64_w, i32_w]
                    rfl
                  refine pure_ (i := 55) (N := some 114) (v := ?_) (a' := ?_) #[true, true, true, true, true, true, true, true, true, true, true, true, true, true, true, true, true, true, true, true, true, true, true, true, true, true, true, true, true, true, true, true, true, true, true, true, true, true, true, true, true, true, true, true, true, true, true, true, true, true, true, true, true, true, true, true, false, false, false, false, false, false, false, false, false, false] rfl rfl (any_of HT_.out (by kernel_rfl)) (fun _ _ _ h => h) (Or.inl ⟨by rfl, ?_⟩) ?_ ?_
                  rotate_left
                  · intro w'
                    go_simp
                    with_reducible rfl
                  rotate_left
                  · simp only [Act.put, List.setIfInBounds_toArray, List.set_cons_zero, List.set_cons_succ, i64_w, i32_w]
                    rfl
                  refine pure_ (i := 56) (N := some 115) (v := ?_) (a' := ?_) #[true, true, true, true, true, true, true, true, true, true, true, true, true, true, true, true, true, true, true, true, true, true, true, true, true, true, true, true, true, true, true, true, true, true, true, true, true, true, true, true, true, true, true, true, true, true, true, true, true, true, true, true, true, true, true, true, true, false, false, false, false, false, false, false, false, false] rfl rfl (any_of HT_.out (by kernel_rfl)) (fun _ _ _ h => h) (Or.inl ⟨by rfl, ?_⟩) ?_ ?_
                  rotate_left
                  · intro w'
                    go_simp
                    with_reducible rfl
                  rotate_left
                  · simp only [Act.put, List.setIfInBounds_toArray, List.set_cons_zero, List.set_cons_succ, i64_w, i32_w]
                    rfl
                  refine take_ (i := 57) (N := some 116) (v := ?_) (a' := ?_) #[true, true, true, true, true, true, true, true, true, true, true, true, true, true, true, true, true, true, true, true, true, true, true, true, true, true, true, true, true, true, true, true, true, true, true, true, true, true, true, true, true, true, true, true, true, true, true, true, true, true, true, true, true, true, true, true, true, true, false, false, false, false, false, false, false, false] rfl rfl (take_ofW HT_.out HW_.out (by kernel_rfl)) (fun _ _ _ h => h) (Or.inl ⟨by rfl, ?_⟩) hHeld ?_ ?_
                  rotate_left
                  · rintro w' ⟨s0, s1, s2, s3, s4, s5, s6, s7, s8, s9, s10, s11, s12, s13, s14, s15⟩
                    go_simp
                    with_reducible rfl
                  rotate_left
                  · simp only [Act.put, List.setIfInBounds_toArray, List.set_cons_zero, List.set_cons_succ, i64_w, i32_w]
                    rfl
                  refine pure_ (i := 58) (N := some 117) (v := ?_) (a' := ?_) #[true, true, true, true, true, true, true, true, true, true, true, true, true, true, true, true, true, true, true, true, true, true, true, true, true, true, true, true, true, true, true, true, true, true, true, true, true, true, true, true, true, true, true, true, true, true, true, true, true, true, true, true, true, true, true, true, true, true, true, false, false, false, false, false, false, false] rfl rfl (any_of HT_.out (by kernel_rfl)) (fun _ _ _ h => h) (Or.inl ⟨by rfl, ?_⟩) ?_ ?_
                  rotate_left
                  · intro w'
                    go_simp
                    with_reducible rfl
                  rotate_left
                  · simp only [Act.put, List.setIfInBounds_toArray, List.set_cons_zero, List.set_cons_succ, i64_w, i32_w]
                    rfl
                  refine pure_ (i := 59) (N := some 118) (v := ?_) (a' := ?_) #[true, true, true, true, true, true, true, true, true, true, true, true, true, true, true, true, true, true, true, true, true, true, true, true, true, true, true, true, true, true, true, true, true, true, true, true, true, true, true, true, true, true, true, true, true, true, true, true, true, true, true, true, true, true, true, true, true, true, true, true, false, false, false, false, false, false] rfl rfl (any_of HT_.out (by kernel_rfl)) (fun _ _ _ h => h) (Or.inl ⟨by rfl, ?_⟩) ?_ ?_
                  rotate_left
                  · intro w'
                    go_simp
                    with_reducible rfl
                  rotate_left
                  · simp only [Act.put, List.setIfInBounds_toArray, List.set_cons_zero, List.set_cons_succ, i64_w, i32_w]
                    rfl
                  refine pure_ (i := 60) (N := some 119) (v := ?_) (a' := ?_) #[true, true, true, true, true, true, true, true, true, true, true, true, true, true, true, true, true, true, true, true, true, true, true, true, true, true, true, true, true, true, true, true, true, true, true, true, true, true, true, true, true, true, true, true, true, true, true, true, true, true, true, true, true, true, true, true, true, true, true, true, true, false, false, false, false, false] rfl rfl (any_of HT_.out (by kernel_rfl)) (fun _ _ _ h => h) (Or.inl ⟨by rfl, ?_⟩) ?_ ?_
                  rotate_left
                  · intro w'
                    go_simp
                    with_reducible rfl
                  rotate_left
                  · simp only [Act.put, List.setIfInBounds_toArray, List.set_cons_zero, List.set_cons_succ, i64_w, i32_w]
                    rfl
                  refine pure_ (i := 61) (N := some 120) (v := ?_) (a' := ?_) #[true, true, true, true, true, true, true, true, true, true, true, true, true, true, true, true, true, true, true, true, true, true, true, true, true, true, true, true, true, true, true, true, true, true, true, true, true, true, true, true, true, true, true, true, true, true, true, true, true, true, true, true, true, true, true, true, true, true, true, true, true, true, false, false, false, false] rfl rfl (any_of HT_.out (by kernel_rfl)) (fun _ _ _ h => h) (Or.inl ⟨by rfl, ?_⟩) ?_ ?_
                  rotate_left
                  · intro w'
                    go_simp
                    with_reducible rfl
                  rotate_left
                  · simp only [Act.put, List.setIfInBounds_toArray, List.set_cons_zero, List.set_cons_succ, i64_w, i32_w]
                    rfl
                  refine take_ (i := 62) (N := some 121) (v := ?_) (a' := ?_) #[true, true, true, true, true, true, true, true, true, true, true, true, true, true, true, true, true, true, true, true, true, true, true, true, true, true, true, true, true, true, true, true, true, true, true, true, true, true, true, true, true, true, true, true, true, true, true, true, true, true, true, true, true, true, true, true, true, true, true, true, true, true, true, false, false, false] rfl rfl (take_ofW HT_.out HW_.out (by kernel_rfl)) (fun _ _ _ h => h) (Or.inl ⟨by rfl, ?_⟩) hHeld ?_ ?_
                  rotate_left
                  · rintro w' ⟨s0, s1, s2, s3, s4, s5, s6, s7, s8, s9, s10, s11, s12, s13, s14, s15⟩
                    go_simp
                    with_reducible rfl
                  rotate_left
                  · simp only [Act.put, List.setIfInBounds_toArray, List.set_cons_zero, List.set_cons_succ, i64_w, i32_w]
                    rfl
                  refine pure_ (i := 63) (N := some 122) (v := ?_) (a' := ?_) #[true, true, true, true, true, true, true, true, true, true, true, true, true, true, true, true, true, true, true, true, true, true, true, true, true, true, true, true, true, true, true, true, true, true, true, true, true, true, true, true, true, true, true, true, true, true, true, true, true, true, true, true, true, true, true, true, true, true, true, true, true, true, true, true, false, false] rfl rfl (any_of HT_.out (by kernel_rfl)) (fun _ _ _ h => h) (Or.inl ⟨by rfl, ?_⟩) ?_ ?_
                  rotate_left
                  · intro w'
                    go_simp
                    with_reducible rfl
                  rotate_left
                  · simp only [Act.put, List.setIfInBounds_toArray, List.set_cons_zero, List.set_cons_succ, i64_w, i32_w]
                    rfl
                  refine pure_ (i := 64) (N := some 123) (v := ?_) (a' := ?_) #[true, true, true, true, true, true, true, true, true, true, true, true, true, true, true, true, true, true, true, true, true, true, true, true, true, true, true, true, true, true, true, true, true, true, true, true, true, true, true, true, true, true, true, true, true, true, true, true, true, true, true, true, true, true, true, true, true, true, true, true, true, true, true, true, true, false] rfl rfl (any_of HT_.out (by kernel_rfl)) (fun _ _ _ h => h) (Or.inl ⟨by rfl, ?_⟩) ?_ ?_
                  rotate_left
                  · intro w'
                    go_simp
                    with_reducible rfl
                  rotate_left
                  · simp only [Act.put, List.setIfInBounds_toArray, List.set_cons_zero, List.set_cons_succ, i64_w, i32_w]
                    rfl
                  refine pure_ (i := 65) (N := some 12) (v := ?_) (a' := ?_) #[true, true, true, true, true, true, true, true, true, true, true, true, true, true, true, true, true, true, true, true, true, true, true, true, true, true, true, true, true, true, true, true, true, true, true, true, true, true, true, true, true, true, true, true, true, true, true, true, true, true, true, true, true, true, true, true, true, true, true, true, true, true, true, true, true, true] rfl rfl (any_of HT_.out (by kernel_rfl)) (fun _ _ _ h => h) (Or.inl ⟨by rfl, ?_⟩) ?_ ?_
                  rotate_left
                  · intro w'
                    go_simp
                    with_reducible rfl
                  rotate_left
                  · simp only [Act.put, List.setIfInBounds_toArray, List.set_cons_zero, List.set_cons_succ, i64_w, i32_w]
                    rfl
                  refine done_ (done_of HT_.out (by kernel_rfl)) ?_
                  try go_wp2
                  go_ret
                  exact ⟨by first | rfl | (simp [errW_none, errW_some] <;> rfl) | (simp only [← hji9, ← hji11]; first | rfl | (simp [errW_none, errW_some] <;> rfl)) | (simp [*, errW_none, errW_some] <;> rfl), by repeat (first | (with_reducible first | exact HB.out | apply below_alloc | apply pw_below_drewN | apply below_drew1 | refine below_set ?_ GE221.out | refine below_set ?_ GE231.out | refine below_set ?_ GE234.out | refine below_set ?_ GE237.out | refine below_set ?_ GE240.out | refine below_set ?_ GE243.out) | exact HB.out)⟩
                · rw [if_neg c26] at H
                  have c26b0 : (t235 == 2) = false := beq_eq_false_iff_ne.mpr c26
                  have c26b1 : (t235 != 2) = true := bne_iff_ne.mpr c26
                  exact absurd H (by simp)
              · rw [if_neg c25] at H
                have c25b0 : (t232 == 1) = false := beq_eq_false_iff_ne.mpr c25
                have c25b1 : (t232 != 1) = true := bne_iff_ne.mpr c25
                exact absurd H (by simp)
            · rw [if_neg c24] at H
              have c24b0 : (t241 == t250 && (t242 == t251)) = false := by simpa using c24
              (try (have c24b1 : decide (t241 = t250 && (t242 == t251)) = false := by simpa using c24))
              (try (have c24b2 : (t241 == t250 && (t242 == t251)) = false := by simpa using c24))
              (try (have c24b3 : ¬ (t241 = t250 && (t242 == t251)) := by simpa using c24))
              clear c24
              exact absurd H (by simp)
          · rw [if_neg c22] at H
            have c22b0 : (t238 == t248 && (t239 == t249)) = false := by simpa using c22
            (try (have c22b1 : decide (t238 = t248 && (t239 == t249)) = false := by simpa using c22))
            (try (have c22b2 : (t238 == t248 && (t239 == t249)) = false := by simpa using c22))
            (try (have c22b3 : ¬ (t238 = t248 && (t239 == t249)) := by simpa using c22))
            clear c22
            exact absurd H (by simp)
        · rw [if_neg c20] at H
          have c20b0 : (t235 == t246 && (t236 == t247)) = false := by simpa using c20
          (try (have c20b1 : decide (t235 = t246 && (t236 == t247)) = false := by simpa using c20))
          (try (have c20b2 : (t235 == t246 && (t236 == t247)) = false := by simpa using c20))
          (try (have c20b3 : ¬ (t235 = t246 && (t236 == t247)) := by simpa using c20))
          clear c20
          exact absurd H (by simp)
      · rw [if_neg c18] at H
        have c18b0 : (t232 == t244 && (t233 == t245)) = false := by simpa using c18
        (try (have c18b1 : decide (t232 = t244 && (t233 == t245)) = false := by simpa using c18))
        (try (have c18b2 : (t232 == t244 && (t233 == t245)) = false := by simpa using c18))
        (try (have c18b3 : ¬ (t232 = t244 && (t233 == t245)) := by simpa using c18))
        clear c18
        exact absurd H (by simp)
    · replace c16 := Bool.eq_false_iff.mpr c16
      subst c16
      have H1 : (none) = some r := by rw [if_neg (show ¬ (false = true) by decide)] at H; exact H
      clear H
      have H := H1
      clear H1
      exact absurd H (by simp)
  · rw [if_neg c10] at H
    exact absurd H (by simp)

/-- THE ONE PURE STATEMENT of keepsakelaw20_BankRounds: yours. -/
def keepsakelaw20_BankRounds.Pure : Prop := ∀ (a0 : Int) (a1 : Int) (a2 : Int) (a3 : Int) (a4_0 : Int) (a4_1 : Int) (a5 : Int), (Lit.int .u8 a0).wf = true → (Lit.int .u8 a1).wf = true → (Lit.int .u8 a2).wf = true → (Lit.int .u8 a3).wf = true → (Lit.int .u8 a4_0).wf = true → (Lit.int .u8 a4_1).wf = true → (Lit.int .u16 a5).wf = true → ∃ k, keepsakelaw20_BankRounds.f k a0 a1 a2 a3 a4_0 a4_1 a5 = some true
theorem keepsakelaw20_BankRounds.walk (P : keepsakelaw20_BankRounds.Pure) (a0 : Int) (a1 : Int) (a2 : Int) (a3 : Int) (a4_0 : Int) (a4_1 : Int) (a5 : Int) (w : World) (w0 : (Lit.int .u8 a0).wf = true) (w1 : (Lit.int .u8 a1).wf = true) (w2 : (Lit.int .u8 a2).wf = true) (w3 : (Lit.int .u8 a3).wf = true) (w4_0 : (Lit.int .u8 a4_0).wf = true) (w4_1 : (Lit.int .u8 a4_1).wf = true) (w5 : (Lit.int .u16 a5).wf = true) :
    Calls Try.prog 7 #[.int .u8 a0, .int .u8 a1, .int .u8 a2, .int .u8 a3, .agg #[.int .u8 a4_0, .int .u8 a4_1], .int .u16 a5] w fun e w' => e = .returned (.bool true) ∧ Below w.heap.size w w' := by
  obtain ⟨k, h⟩ := P a0 a1 a2 a3 a4_0 a4_1 a5 w0 w1 w2 w3 w4_0 w4_1 w5
  refine (keepsakelaw20_BankRounds.calls k a0 a1 a2 a3 a4_0 a4_1 a5 true w h).mono ?_
  rintro e w' ⟨rfl, hd⟩
  exact ⟨rfl, hd⟩

end Go.Proofs.Ytogmbgmepkhnaaa.All
