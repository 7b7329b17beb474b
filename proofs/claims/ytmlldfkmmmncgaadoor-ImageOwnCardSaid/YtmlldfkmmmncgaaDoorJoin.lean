/- bytes.Join of pieces without anything between: all bytes, one behind the other, in new memory: by its walk. -/
import Derived.Test.YtmlldfkmmmncgaaDoorAx2
import Derived.Test.YtmlldfkmmmncgaaDoorConcat
import Derived.Test.YtmlldfkmmmncgaaDoorPieces
import Derived.Lib.MakeNoZero
import Derived.Laws.Externs
import Derived.Deep.LoopGhost
import Derived.BigCall
import Derived.BigGuard
import Derived.Deep.Slices
set_option linter.unusedVariables false
set_option linter.unusedSimpArgs false
namespace Go.Proofs.YtmlldfkmmmncgaaDoor.Given
open Go.RowKit Go.Proofs.YtmlldfkmmmncgaaDoor.All Go.Proofs.YtmlldfkmmmncgaaDoorW.PrintWords Go.Proofs.YtmlldfkmmmncgaaDoorW.PrintLast Go.Proofs.YtmlldfkmmmncgaaDoorW.PrintMore

/-- A block's first bytes. -/
def Laid0 (W : World) (g T : Nat) (acc : List Int) : Prop := ∃ L : List Value, W.heap[g]? = some (.cells L.toArray 5 (0, 0)) ∧ T ≤ L.length ∧ L.take acc.length = acc.map (Value.int .u8) ∧ acc.length ≤ T
theorem laid_splice (L : List Value) (acc ys : List Int) (h : L.take acc.length = acc.map (Value.int .u8)) (hl : acc.length + ys.length ≤ L.length) :
    (splice L acc.length (ys.map (Value.int .u8))).take (acc ++ ys).length = (acc ++ ys).map (Value.int .u8) := by
  unfold splice
  rw [h, List.map_append, List.length_append, ← List.append_assoc]
  exact List.take_left' (by simp)
theorem laid_V {w W : World} {g T : Nat} {acc : List Int} (h : Laid0 W g T acc) (hT : acc.length = T) (hg : w.heap.size ≤ g) (hm : T ≤ 100000000) : Kd.V (Kd.int .u8) 5 W w.heap.size (fun k_ => w.heap.size ≤ k_) (.slice (some ⟨g, 0, none⟩) T T) acc := by
  obtain ⟨L, h1, h2, h3, h4⟩ := h
  subst hT
  refine Kd.V_mk (Nat.le_refl _) (fun W' hW => ?_)
  have hg' := (hW g hg (Array.getElem?_eq_some_iff.1 h1).1).trans h1
  refine ⟨rfl, by omega, fun _ => ⟨_, rfl, fun i x hx => ⟨[.int .u8 x], rfl, rfl, fun i' u hu => ?_⟩⟩⟩
  obtain rfl : i' = 0 := by
    cases i' with
    | zero => rfl
    | succ n => simp at hu
  obtain rfl : Value.int .u8 x = u := by simpa using hu
  have hi := (List.getElem?_eq_some_iff.1 hx).1
  have := piece_cell (s := 0) (n := acc.length) hg' (by simpa using h3) i x hi hx
  rw [add_off]
  simpa [show (Kd.int .u8).sz = 1 from rfl] using this
theorem laid_put {w' : World} {g T : Nat} {acc ys : List Int} {L : List Value} (hL : T ≤ L.length) (ht : L.take acc.length = acc.map (Value.int .u8)) (hl : acc.length + ys.length ≤ T)
    (h : w'.heap[g]? = some (.cells (splice L acc.length (ys.map (Value.int .u8))).toArray 5 (0, 0))) : Laid0 w' g T (acc ++ ys) :=
  ⟨_, h, by rw [length_splice _ _ _ (by simp; omega)]; exact hL, laid_splice L acc ys ht (by omega), by simpa using hl⟩
theorem infoB2 : ∃ i, Tryd.prog.info? 5 = some i ∧ i.size = 1 := by
  obtain ⟨i, hi, _, hz, _⟩ := info_parts infoB'
  exact ⟨i, hi, hz⟩
theorem infoP2 : ∃ i, Tryd.prog.info? 25 = some i ∧ i.size = 1 := by
  obtain ⟨i, hi, _, hz, _⟩ := info_parts infoP
  exact ⟨i, hi, hz⟩
def tailA (g T a : Nat) : Option Addr := if T = a then some ⟨g, 0, none⟩ else some ⟨g, a, none⟩
theorem run_tail (g T a : Nat) (h : a ≤ T) : ∀ W : World, (Instr.slice 25 (.slice (some ⟨g, 0, none⟩) T T) (some (.int .i64 (a : Int))) none none).run Tryd.prog W = .ok (.slice (tailA g T a) (T - a) (T - a)) W := by
  obtain ⟨i, hi, hz⟩ := infoB2
  intro W
  have := cut_from (P := Tryd.prog) 25 5 .i64 Tryd.underlying25 hi 1 hz (some ⟨g, 0, none⟩) T T (a : Int) (by omega) (by omega) W
  rw [this]
  unfold tailA
  simp [add_plain]
theorem copy_src {W : World} {A : Option Addr} {l : List Int} (h : (Kd.int .u8).C W A l.length l) (hp : 0 < l.length) : ∃ ad, A = some ad ∧ ∀ j v, (l.map (Value.int .u8))[j]? = some v → W.cell? (ad.add j) = some v :=
  src_of (Kd.reads_of_C (d := (0 : Int)) h) hp (Below.refl _ _)
theorem part_at {w W : World} {A : Option Addr} {ls : List (List Int)} (h : (Kd.slice 5 (Kd.int .u8)).C w A ls.length ls) (hb : Below w.heap.size w W) (k : Nat) (hk : k < ls.length) :
    ∃ (ad : Addr) (Ai : Option Addr) (ci : Nat), A = some ad ∧ W.cell? (ad.add k) = some (.slice Ai (ls.getD k []).length ci) ∧ (ls.getD k []).length ≤ ci ∧ (Kd.int .u8).C W Ai (ls.getD k []).length (ls.getD k []) := by
  exact list_at (Kd.C_below h hb) k hk
set_option maxHeartbeats 4000000 in
set_option maxRecDepth 100000 in
theorem join_many (As : Option Addr) (cS : Nat) (A : Option Addr) (c : Nat) (ls : List (List Int)) (w : World) (hr : (Kd.slice 5 (Kd.int .u8)).C w A ls.length ls) (hcap : ls.length ≤ c) (h2 : 2 ≤ ls.length) (hn : ls.length ≤ 100000) (hlen : ls.flatten.length ≤ 100000000) :
    Calls Tryd.prog 34 #[.slice A ls.length c, .slice As 0 cS] w fun e w' => ∃ v0_ : Value, e = .returned v0_ ∧ Kd.V (Kd.int .u8) 5 w' w.heap.size (fun k_ => w.heap.size ≤ k_) v0_ ls.flatten ∧ Below w.heap.size w w' := by
  have HR := Aside0.mk hr
  have HFS := Lib.hid (flat_succ ls)
  have HL := Lib.hid hlen
  have f0 : ((ls.length : Int) == 0) = false := beq_eq_false_iff_ne.2 (by omega)
  have f1 : ((ls.length : Int) == 1) = false := beq_eq_false_iff_ne.2 (by omega)
  have HP : Aside0 (∀ v (w' : World), Kd.V (Kd.int .u8) 5 w' w.heap.size (fun k_ => w.heap.size ≤ k_) v ls.flatten → Below w.heap.size w w' → ∃ v0_ : Value, Ending.returned v = .returned v0_ ∧ Kd.V (Kd.int .u8) 5 w' w.heap.size (fun k_ => w.heap.size ≤ k_) v0_ ls.flatten ∧ Below w.heap.size w w') := ⟨fun v w' h hb => ⟨v, rfl, h, hb⟩⟩
  clear hr hlen
  go_enter Tryd.func34, Tryd.ntmps34
  go_wp2
  go_loop [5, 44] (fun s i => ∃ k : Nat, k ≤ ls.length ∧ i = .int .i64 k ∧ s = .int .i64 (flen ls k)) (fun _ i => ls.length - (intOf i).toNat)
  case atStart => exact ⟨0, Nat.zero_le _, rfl, by rw [flen_zero]; rfl⟩
  case round =>
    obtain ⟨k, hk, rfl, rfl⟩ := hrel
    by_cases hlt : k < ls.length
    · obtain ⟨ad, Ai, ci, rfl, hc, _, _⟩ := list_at HR.out k hlt
      have h4 := flen_succ ls k hlt
      have h5 : flen ls k + (ls.getD k []).length ≤ 100000000 := by rw [← h4]; exact Nat.le_trans (flen_le _ _) HL.out
      have H4 := Lib.hid h4
      clear h4
      generalize flen ls k = a at *
      generalize hb : (ls.getD k []).length = b at *
      clear hb
      have hneg : ¬ (9223372036854775807 - (a : Int) < (b : Int)) := by omega
      go_wp2_with fail
      go_round
      case rel => exact ⟨k + 1, by omega, by simp, by rw [H4.out]; simp⟩
      case measure => simp [intOf]; omega
    · obtain rfl : k = ls.length := by omega
      have hflen : flen ls ls.length = ls.flatten.length := by unfold flen; rw [List.take_length]
      obtain ⟨T, hT⟩ : ∃ T, flen ls ls.length = T := ⟨_, rfl⟩
      rw [hT]
      have hT2 : T ≤ 100000000 := by rw [← hT, hflen]; exact HL.out
      have HT : Aside0 (ls.flatten.length = T) := ⟨by rw [← hflen, hT]⟩
      clear hT hflen
      obtain ⟨cs, hrunM, hle, _⟩ := Lib.run_makeNoZero (P := Tryd.prog) w #[3] 25 5 Tryd.underlying25 T (by omega)
      have hcall : (callFunc 43 #[.int .i64 (T : Int)]).run Tryd.prog w = .ok (.value (.slice (some ⟨w.heap.size, 0, none⟩) T cs.size)) ((w.alloc (.cells cs 5)).drewN 2) := by
        rw [run_callFunc_extern Tryd.func43 (by kernel_rfl) (by kernel_rfl) (by kernel_rfl) (e := Extern.BytealgMakeNoZero.makeNoZero #[3] #[25]) (by kernel_rfl), hrunM]
        rfl
      clear hrunM
      have i0 : (0 : Int) ≤ (T : Int) := by omega
      have i1 : (T : Int) ≤ (cs.size : Int) := by omega
      go_upto_region 18 with (fail)
      clear hcall
      have hb0 : Below w.heap.size w ((w.alloc (.cells cs 5)).drewN 2) := pw_below_drewN ((Below.refl _ _).alloc (Nat.le_refl _) _) 2
      have hg0 : ((w.alloc (.cells cs 5)).drewN 2).heap[w.heap.size]? = some (.cells cs 5 (0, 0)) := heap_alloc_new w _
      generalize (w.alloc (.cells cs 5)).drewN 2 = W0 at *
      obtain ⟨ad, A0, c0, rfl, hc0, _, hC0⟩ := part_at HR.out hb0 0 (by omega)
      have hl0 : (ls.getD 0 []).length ≤ T := by rw [← HT.out]; have := HFS.out 0 (by omega); have h6 := flat_len ls 1; rw [this] at h6; simpa using h6
      have HD0 : Aside0 (ls.getD 0 [] = (ls.take 1).flatten) := ⟨by have := HFS.out 0 (by omega); rw [this]; simp⟩
      generalize ls.getD 0 [] = y0 at *
      have hc0' : W0.cell? ad = some (.slice A0 y0.length c0) := by simpa [Addr.add] using hc0
      have ho0 : ∀ v ∈ y0.map (Value.int .u8), v.oneCell' = true := by
        intro v hv
        obtain ⟨x, _, rfl⟩ := List.mem_map.1 hv
        rfl
      have HC0 := Aside0.mk (copy_src hC0)
      have HO0 := Aside0.mk ho0
      have HG0 : Aside0 (W0.heap[w.heap.size]? = some (.cells cs.toList.toArray 5 (0, 0))) := ⟨by simpa using hg0⟩
      have HN0 : Aside0 ((y0.map (Value.int .u8)).length = Nat.min y0.length T) := ⟨by rw [List.length_map]; exact (Nat.min_eq_left hl0).symm⟩
      have HB0 := Aside0.mk hb0
      have HF0 : Aside0 (0 + (y0.map (Value.int .u8)).length ≤ cs.toList.length) := ⟨by simp; omega⟩
      obtain ⟨ip, hip, hipz⟩ := infoP2
      have hs1 := cut_from (P := Tryd.prog) 31 25 .i64 Tryd.underlying31 hip 1 hipz (some ad) ls.length c 1 (by omega) (by omega)
      rw [if_neg (by omega)] at hs1
      simp only [Option.map_some, Int.toNat_one, Nat.mul_one] at hs1
      have HLEN : Aside0 (T ≤ cs.toList.length) := ⟨by simp; omega⟩
      clear hb0 hg0 hC0 ho0 hip hipz
      go_wp2_with ((with_reducible refine gate_dst (N := 68) rfl ?_); (refine wpList_copy_splice rfl (.tmp 64) (.tmp 67) _ _ rfl 5 Tryd.underlying25 size5' (some ⟨w.heap.size, 0, none⟩) A0 T T y0.length c0 rfl rfl w.heap.size 0 cs.toList 5 HG0.out (y0.map (Value.int .u8)) HN0.out (fun h => ⟨rfl, HC0.out (by simpa using h)⟩) HF0.out HO0.out w.heap.size w HB0.out (Nat.le_refl _) ?_); intro W1 hg1 hb1; have HLD := Aside0.mk (laid_put (L := cs.toList) (acc := []) (ys := y0) HLEN.out rfl (by simpa using hl0) hg1.out); have HB1 := Aside0.mk hb1; clear hg1 hb1)
      rw [List.nil_append, HD0.out] at HLD
      have hy0 : (y0.length : Int) = (flen ls 1 : Int) := by unfold flen; rw [← HD0.out]
      have HY0 := Lib.hid hy0
      clear hc0 hc0' hy0
      go_loopw [9, 72] (fun s i wr => ∃ j : Nat, j ≤ ls.length - 1 ∧ i = .int .i64 j ∧ s = .int .i64 (flen ls (1 + j)) ∧ Aside0 (Laid0 wr w.heap.size T (ls.take (1 + j)).flatten) ∧ Aside0 (Below w.heap.size w wr)) (fun _ i _ => ls.length - 1 - (intOf i).toNat)
      case atStart => exact ⟨0, Nat.zero_le _, rfl, by rw [HY0.out], HLD, HB1⟩
      case round =>
        obtain ⟨j, hj, rfl, rfl, hLD, hB⟩ := hrel
        clear HLD HB1
        by_cases hjn : j < ls.length - 1
        · obtain ⟨ad', Ai, ci, ead, hcy, _, hCy⟩ := part_at HR.out hB.out (1 + j) (by omega)
          injection ead with ead
          subst ead
          rw [← Go.Deep.add_add, show (ad.add 1).add j = ⟨ad.block, ad.off + 1 + j, none⟩ by unfold Addr.add; by_cases hj : j = 0 <;> simp [hj]] at hcy
          have h4 := flen_succ ls (1 + j) (by omega)
          have h5 : flen ls (1 + j) + (ls.getD (1 + j) []).length ≤ T := by rw [← h4, ← HT.out]; exact flen_le _ _
          have h6 := HFS.out (1 + j) (by omega)
          rw [show 1 + j + 1 = 1 + (j + 1) by omega] at h4 h6
          have h7 : (ls.take (1 + j)).flatten.length = flen ls (1 + j) := rfl
          obtain ⟨L, hL1, hL2, hL3, hL4⟩ := hLD.out
          have H4 := Lib.hid h4
          have H6 := Lib.hid h6
          have hsrc := copy_src hCy
          rw [h7] at hL3 hL4
          generalize hacc : (ls.take (1 + j)).flatten = acc at *
          clear hacc
          generalize flen ls (1 + j) = a at *
          generalize ls.getD (1 + j) [] = y at *
          have hsl := run_tail w.heap.size T a (by omega)
          have HL1 := Aside0.mk hL1
          have HL2 := Aside0.mk hL2
          have HL3 := Aside0.mk hL3
          have HSRC := Aside0.mk hsrc
          have HA := Aside0.mk h7
          have HCN : Aside0 ((y.map (Value.int .u8)).length = Nat.min y.length (T - a)) := ⟨by rw [List.length_map]; exact (Nat.min_eq_left (by omega)).symm⟩
          have HCF : Aside0 (a + (y.map (Value.int .u8)).length ≤ L.length) := ⟨by rw [List.length_map]; omega⟩
          have HONE : Aside0 (∀ v ∈ y.map (Value.int .u8), v.oneCell' = true) := ⟨by
            intro v hv
            obtain ⟨x, _, rfl⟩ := List.mem_map.1 hv
            rfl⟩
          have HTA : Aside0 (0 < (y.map (Value.int .u8)).length → tailA w.heap.size T a = some ⟨w.heap.size, a, none⟩) := ⟨fun h => by rw [List.length_map] at h; unfold tailA; rw [if_neg (by omega)]⟩
          have hmin : Nat.min 0 (T - a) = 0 := Nat.zero_min _
          have HMIN := Aside0.mk hmin
          have ha0 : (a : Int) + (y.length : Int) ≤ 100000000 := by omega
          clear h4 h6 h7 hL1 hL2 hL3 hL4 hsrc hLD hmin hCy
          go_wp2_with (first
            | ((with_reducible refine gate_dst (N := 81) rfl ?_); refine wpList_copy_nothing rfl (.tmp 79) (.tmp 80) _ _ rfl 5 Tryd.underlying25 size5' (tailA w.heap.size T a) As (T - a) (T - a) 0 cS rfl rfl HMIN.out ?_)
            | ((with_reducible refine gate_dst (N := 88) rfl ?_); (refine wpList_copy_splice rfl (.tmp 86) (.tmp 87) _ _ rfl 5 Tryd.underlying25 size5' (tailA w.heap.size T a) Ai (T - a) (T - a) y.length ci rfl rfl w.heap.size a L 5 HL1.out (y.map (Value.int .u8)) HCN.out (fun h => ⟨HTA.out h, HSRC.out (by simpa using h)⟩) HCF.out HONE.out w.heap.size w hB.out (Nat.le_refl _) ?_); intro W2 hg2 hb2; have HLD := Aside0.mk (laid_put (L := L) (acc := acc) (ys := y) HL2.out (by rw [HA.out]; exact HL3.out) (by rw [HA.out]; omega) (by rw [HA.out]; exact hg2.out)); have HB1 := Aside0.mk hb2; clear hg2 hb2))
          go_roundw
          case rel => exact ⟨j + 1, by omega, by go_num, by rw [H4.out]; go_num, by rw [H6.out]; exact HLD, HB1⟩
          case measure => simp [intOf]; omega
        · obtain rfl : j = ls.length - 1 := by omega
          go_wp2_with fail
          go_ret
          have e : ls.take (1 + (ls.length - 1)) = ls := by rw [show 1 + (ls.length - 1) = ls.length by omega, List.take_length]
          have hl := hLD.out
          rw [e] at hl
          exact HP.out _ _ (laid_V hl HT.out (Nat.le_refl _) hT2) hB.out
theorem join_none (As : Option Addr) (cS : Nat) (A : Option Addr) (c : Nat) (w : World) :
    Calls Tryd.prog 34 #[.slice A 0 c, .slice As 0 cS] w fun e w' => ∃ v0_ : Value, e = .returned v0_ ∧ Kd.V (Kd.int .u8) 5 w' w.heap.size (fun k_ => w.heap.size ≤ k_) v0_ ([] : List Int) ∧ Below w.heap.size w w' := by
  have HP : Aside0 (∀ A (w' : World), Below w.heap.size w w' → ∃ v0_ : Value, Ending.returned (.slice A 0 0) = .returned v0_ ∧ Kd.V (Kd.int .u8) 5 w' w.heap.size (fun k_ => w.heap.size ≤ k_) v0_ ([] : List Int) ∧ Below w.heap.size w w') :=
    ⟨fun A w' hb => ⟨_, rfl, ⟨A, 0, rfl, Nat.le_refl _, fun W' _ => ⟨rfl, by simp, fun h => absurd h (Nat.lt_irrefl 0)⟩⟩, hb⟩⟩
  go_enter Tryd.func34, Tryd.ntmps34
  go_wp2
  go_ret
  exact HP.out _ _ ((Below.refl _ _).alloc (Nat.le_refl _) _)
set_option maxHeartbeats 1000000 in
theorem join_one (As : Option Addr) (cS : Nat) (A : Option Addr) (c : Nat) (l : List Int) (w : World) (hr : (Kd.slice 5 (Kd.int .u8)).C w A [l].length [l]) (hl : l.length ≤ 100000000) :
    Calls Tryd.prog 34 #[.slice A 1 c, .slice As 0 cS] w fun e w' => ∃ v0_ : Value, e = .returned v0_ ∧ Kd.V (Kd.int .u8) 5 w' w.heap.size (fun k_ => w.heap.size ≤ k_) v0_ l ∧ Below w.heap.size w w' := by
  obtain ⟨ad, Ai, ci, rfl, hc, hle, hC⟩ := list_at hr 0 (by simp)
  have e0 : [l].getD 0 [] = l := rfl
  rw [e0] at hc hle hC
  have hc0' : w.cell? ad = some (.slice Ai l.length ci) := by simpa [Addr.add] using hc
  have HC := Aside0.mk hC
  have HP : Aside0 (∀ v (w' : World), Kd.R (Kd.int .u8) 5 w' w.heap.size (fun k_ => w.heap.size ≤ k_) v l → Below w.heap.size w w' → ∃ v0_ : Value, Ending.returned v = .returned v0_ ∧ Kd.V (Kd.int .u8) 5 w' w.heap.size (fun k_ => w.heap.size ≤ k_) v0_ l ∧ Below w.heap.size w w') := ⟨fun v w' h hb => ⟨v, rfl, Kd.R_V h, hb⟩⟩
  clear hC hr e0
  go_enter Tryd.func34, Tryd.ntmps34
  go_wp2_with ((with_reducible refine gate_builtin (b := .append) rfl ?_); refine Kd.R_append_rows (Kd.int .u8) (w0 := w) w.heap.size rfl _ _ 25 5 (.int .u8 0) 1 rfl Tryd.underlying25 infoB' rfl (by decide) (by omega) (.slice none 0 0) ([] : List Int) l _ _ _ (fun k_ => w.heap.size ≤ k_) (fun _ => False) rfl rfl (Kd.R_nil _ _ _ _ _) HC.out (fun _ _ h => h) (fun _ h => h.elim) (fun _ h => h) (Below.refl _ _) (Nat.le_refl _) (by simp; omega) ?_; intro v1 w1 ho hb hg hat; have HO := Aside0.mk ho; have HB := Aside0.mk hb; clear ho hb hg hat)
  go_ret
  exact HP.out _ _ HO.out HB.out
def bytes_Join.f (ls : List (List Int)) (sep : List Int) : Option (List Int) := if sep = [] ∧ ls.length ≤ 100000 ∧ ls.flatten.length ≤ 100000000 then some ls.flatten else none
theorem bytes_Join.calls (A0 : Option Addr) (c0 : Nat) (ls : List (List Int)) (A1 : Option Addr) (c1 : Nat) (sep : List Int) (r : List Int) (w : World) (hr : (Kd.slice 5 (Kd.int .u8)).C w A0 ls.length ls) (hc : ls.length ≤ c0)
    (hr1 : (Kd.int .u8).C w A1 sep.length sep) (hc1 : sep.length ≤ c1) (h : bytes_Join.f ls sep = some r) :
    Calls Tryd.prog 34 #[.slice A0 ls.length c0, .slice A1 sep.length c1] w fun e w' => ∃ v0_ : Value, e = .returned v0_ ∧ Kd.V (Kd.int .u8) 5 w' w.heap.size (fun k_ => w.heap.size ≤ k_) v0_ r ∧ Below w.heap.size w w' := by
  unfold bytes_Join.f at h
  split at h
  · rename_i hb
    obtain ⟨rfl, hb1, hb2⟩ := hb
    injection h with h
    subst h
    match ls, hr, hc, hb1, hb2 with
    | [], _, _, _, _ => exact join_none A1 c1 A0 c0 w
    | [l], hr, _, _, hb2 =>
      have := join_one A1 c1 A0 c0 l w hr (by simpa using hb2)
      simpa using this
    | a :: b :: t, hr, hc, hb1, hb2 => exact join_many A1 c1 A0 c0 (a :: b :: t) w hr hc (by simp) hb1 hb2
  · cases h
end Go.Proofs.YtmlldfkmmmncgaaDoor.Given
