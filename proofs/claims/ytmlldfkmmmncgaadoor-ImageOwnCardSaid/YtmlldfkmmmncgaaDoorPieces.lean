/- Bytes in pieces: the walk of image.Cut. -/
import Derived.Test.YtmlldfkmmmncgaaDoorAx2
import Derived.WalkKit
import Derived.WalkSpells
import Derived.RowKit3
import Derived.Below
import Derived.Laws.CopyOwn
import Derived.Lib.SliceRun
import Derived.Lib.Hide
set_option linter.unusedVariables false
set_option linter.unusedSimpArgs false
namespace Go.Proofs.YtmlldfkmmmncgaaDoor.Given
open Go.RowKit Go.Proofs.YtmlldfkmmmncgaaDoor.All Go.Proofs.YtmlldfkmmmncgaaDoorW.PrintWords Go.Proofs.YtmlldfkmmmncgaaDoorW.PrintLast Go.Proofs.YtmlldfkmmmncgaaDoorW.PrintMore

/-- How many pieces. -/
def many (n s : Nat) : Nat := if n = 0 then 0 else (n - 1) / s + 1
/-- All bytes, filled up with zeros. -/
def full (l : List Int) (s : Nat) : List Int := l ++ List.replicate (many l.length s * s - l.length) 0
def pc (l : List Int) (s : Nat) : List (List Int) := (List.range (many l.length s)).map fun i => ((full l s).drop (i * s)).take s
def image_Cut.f (l : List Int) (s : Int) : Option (List (List Int) × Int) := if s < 1 ∨ 4096 < s then some ([], 1) else if l.length ≤ 100000 then some (pc l s.toNat, 0) else none
/-- A piece, as it lies in the slice: the i-th of block g. -/
def pv (g s i : Nat) : Value := .slice (some ⟨g, i * s, none⟩) s s
theorem pv_one (g s i : Nat) : (pv g s i).oneCell' = true := rfl
theorem many_full (n s : Nat) (hs : 0 < s) : n ≤ many n s * s ∧ many n s * s < n + s := by
  unfold many
  split
  · rename_i h
    subst h
    simp
    exact hs
  · rename_i h
    have h1 := Nat.div_add_mod (n - 1) s
    have h2 := Nat.mod_lt (n - 1) hs
    have h3 : ((n - 1) / s + 1) * s = s * ((n - 1) / s) + s := by rw [Nat.add_mul, Nat.one_mul, Nat.mul_comm]
    omega
theorem many_le (n s : Nat) (hs : 0 < s) : many n s ≤ n := by
  have h := (many_full n s hs).2
  have h2 : many n s * 1 ≤ many n s * s := Nat.mul_le_mul_left _ hs
  unfold many at *
  split
  · omega
  · rename_i h0
    have := Nat.div_le_self (n - 1) s
    omega
theorem full_len (l : List Int) (s : Nat) (hs : 0 < s) : (full l s).length = many l.length s * s := by
  have := (many_full l.length s hs).1
  simp [full]
  omega
theorem right_walk (n : Int) (w : World) : Calls Tryd.prog 32 #[.int .i64 n] w fun e w' => e = .returned (.bool (decide (1 ≤ n ∧ n ≤ 4096))) ∧ w = w' := by
  by_cases h0 : 1 ≤ n
  · by_cases h1 : n ≤ 4096
    · have e : decide (1 ≤ n ∧ n ≤ 4096) = true := decide_eq_true ⟨h0, h1⟩
      rw [e]
      go_enter Tryd.func32, Tryd.ntmps32
      go_wp2
      go_ret
      exact ⟨by simp [h0, h1], rfl⟩
    · have e : decide (1 ≤ n ∧ n ≤ 4096) = false := decide_eq_false (fun h => h1 h.2)
      rw [e]
      go_enter Tryd.func32, Tryd.ntmps32
      go_wp2
      go_ret
      exact ⟨by simp [h0, h1], rfl⟩
  · have e : decide (1 ≤ n ∧ n ≤ 4096) = false := decide_eq_false (fun h => h0 h.1)
    rw [e]
    go_enter Tryd.func32, Tryd.ntmps32
    go_wp2
    go_ret
    exact ⟨by simp [h0], rfl⟩
theorem sectors_f (n s : Nat) (hs : 1 ≤ s) (hs2 : s ≤ 4096) (hn : n ≤ 100000) : image_Sectors.f n s = some (many n s : Int) := by
  unfold image_Sectors.f image_right.f
  by_cases h : (n : Int) < 1
  · rw [if_pos h]
    have : n = 0 := by omega
    subst this
    rfl
  · rw [if_neg h, if_pos (by omega), Option.bind_some, decide_eq_true (by omega), if_pos rfl, if_neg (by omega)]
    congr 1
    have e1 : wrap64 ((n : Int) - 1) = ((n - 1 : Nat) : Int) := by unfold wrap64; omega
    have hq := Nat.div_le_self (n - 1) s
    have e2 : Int.tdiv ((n - 1 : Nat) : Int) (s : Int) = (((n - 1) / s : Nat) : Int) := by rw [Int.tdiv_eq_ediv_of_nonneg (by omega)]; rfl
    have hm : many n s = (n - 1) / s + 1 := by unfold many; rw [if_neg (by omega)]
    rw [e1, e2, hm]
    generalize (n - 1) / s = q at *
    have e3 : wrap64 (q : Int) = q := by unfold wrap64; omega
    rw [e3]
    unfold wrap64
    omega
theorem sectors_walk (n s : Nat) (hs : 1 ≤ s) (hs2 : s ≤ 4096) (hn : n ≤ 100000) (w : World) : Calls Tryd.prog 15 #[.int .i64 n, .int .i64 s] w fun e w' => e = .returned (.int .i64 (many n s : Int)) ∧ Drawn0 w w' :=
  image_Sectors.calls n s _ w (sectors_f n s hs hs2 hn)
/-- Refused. -/
theorem cut_no (A : Option Addr) (c : Nat) (l : List Int) (s : Int) (w : World) (h : ¬ (1 ≤ s ∧ s ≤ 4096)) :
    Calls Tryd.prog 14 #[.slice A l.length c, .int .i64 s] w fun e w' => e = .returned (.tuple #[.slice none 0 0, .int .i64 1]) ∧ w = w' := by
  have hW := right_walk s w
  rw [decide_eq_false h] at hW
  have HW := Lib.hid hW
  clear hW h
  go_enter Tryd.func14, Tryd.ntmps14
  go_wp2_with (go_at_call 32; (with_reducible refine HW.out.mono ?_); rintro e w1 ⟨rfl, rfl⟩)
  go_ret2
  exact ⟨rfl, rfl⟩
theorem infoP : (Tryd.prog.info? 25).map (fun i => (i.zero, i.size, i.bytes)) = some (some (.slice none 0 0), 1, 24) := by kernel_rfl
theorem infoB' : (Tryd.prog.info? 5).map (fun i => (i.zero, i.size, i.bytes)) = some (some (.int .u8 0), 1, 1) := by kernel_rfl
theorem size5' : (Tryd.prog.info? 5).map (·.size) = some 1 := by kernel_rfl
/-- What is made: the pieces' slice, the block that they lie in. -/
def Pieces (w : World) (l : List Int) (s : Nat) (e : Ending) (w' : World) : Prop :=
  ∃ v g cells, e = .returned (.tuple #[v, .int .i64 0]) ∧ (Kd.scalar (pv g s) (pv_one g s)).R 25 w' w.heap.size (fun k => w.heap.size ≤ k ∧ k ≠ g) v (List.range (many l.length s)) ∧
    w'.heap[g]? = some (.cells cells 5 (0, 0)) ∧ cells.toList.take (many l.length s * s) = (full l s).map (Value.int .u8) ∧ w.heap.size ≤ g ∧ Below w.heap.size w w'
theorem blk_grown {W w1 : World} {row : Option Nat} {g : Nat} {ob : Obj} (hg : W.grownBy w1 row) (h : W.heap[g]? = some ob) (hne : some g ≠ row) : w1.heap[g]? = some ob := (hg.block g (Array.getElem?_eq_some_iff.1 h).1 hne).trans h
theorem own_some {w : World} {base : Nat} {e : TypeId} {v : Value} {n : Nat} {xs : List Value} (h : w.ownsRow base e 1 v n xs) (hn : 0 < n) :
    ∃ g cap cur, v = .slice (some ⟨g, 0, none⟩) n cap ∧ base ≤ g ∧ w.heap[g]? = some (.cells cur e (0, 0)) ∧ n ≤ cap ∧ cur.size = cap ∧ cur.toList.take n = xs := by
  obtain ⟨hl, h⟩ := h
  rcases h with ⟨_, h0⟩ | ⟨g, cap, cur, h1, h2, h3, h4, h5, h6, h7⟩
  · omega
  · exact ⟨g, cap, cur, h1, h2, h3, h4, by omega, by rw [Nat.mul_one] at h7; exact h7⟩
theorem splice_full (L : List Value) (l : List Int) (M : Nat) (h : L.take M = (List.replicate M (0 : Int)).map (Value.int .u8)) (hM : M ≤ L.length) (hl : l.length ≤ M) :
    (splice L 0 (l.map (Value.int .u8))).take M = (l ++ List.replicate (M - l.length) 0).map (Value.int .u8) := by
  unfold splice
  have h2 : L.drop l.length = (List.replicate (M - l.length) (Value.int .u8 0)) ++ L.drop M := by
    have e : L = List.replicate M (Value.int .u8 0) ++ L.drop M := by
      have := List.take_append_drop M L
      rw [h] at this
      rw [List.map_replicate] at this
      exact this.symm
    conv => lhs; rw [e]
    rw [List.drop_append_of_le_length (by simpa using hl), List.drop_replicate]
  simp only [List.take_zero, List.nil_append, Nat.zero_add, List.length_map]
  rw [h2, List.map_append, List.map_replicate, ← List.append_assoc]
  exact List.take_left' (by simp; omega)
theorem src_of {w w2 : World} {A : Option Addr} {l : List Int} (h : ReadsOf (Value.int .u8) 0 w A l.length l) (hp : 0 < l.length) (hb : Below w.heap.size w w2) :
    ∃ ad, A = some ad ∧ ∀ j v, (l.map (Value.int .u8))[j]? = some v → w2.cell? (ad.add j) = some v := by
  obtain ⟨ad, e, hc⟩ := h.2.2 hp
  refine ⟨ad, e, fun j v hj => ?_⟩
  rw [List.getElem?_map] at hj
  obtain ⟨x, hx, rfl⟩ := Option.map_eq_some_iff.1 hj
  have hl := (List.getElem?_eq_some_iff.1 hx).1
  have := pw_cell_below hb (hc j hl)
  rw [List.getD_eq_getElem?_getD, hx] at this
  exact this
theorem cut_piece (g M cap a s : Nat) (h : a + s ≤ cap) (hs : 1 ≤ s) : ∀ W : World, (Instr.slice 25 (.slice (some ⟨g, 0, none⟩) M cap) (some (.int .i64 (a : Int))) (some (.int .i64 ((a + s : Nat) : Int))) (some (.int .i64 ((a + s : Nat) : Int)))).run Tryd.prog W = .ok (.slice (some ⟨g, a, none⟩) s s) W := by
  intro W
  obtain ⟨i, hi, _, hz, _⟩ := info_parts infoB'
  have hel : Tryd.prog.elem 25 = 5 := by simp [Program.elem, Tryd.underlying25]
  have hu : Tryd.prog.underlying 25 = some (.slice (Tryd.prog.elem 25)) := by rw [hel]; exact Tryd.underlying25
  rw [run_slice_lhm W 25 _ M cap hu .i64 .i64 .i64 _ _ _ (by omega) (by omega) (by omega) (by omega), hel]
  simp [sizeOf, typeInfo, hi, sliced, Result.andThen, hz, add_plain]
  omega
set_option maxHeartbeats 1600000 in
theorem cut_yes (A : Option Addr) (c : Nat) (l : List Int) (s : Nat) (w : World) (hr : (Kd.int .u8).C w A l.length l) (hc : l.length ≤ c) (hs : 1 ≤ s) (hs2 : s ≤ 4096) (hl : l.length ≤ 100000) (hp : 0 < l.length) :
    Calls Tryd.prog 14 #[.slice A l.length c, .int .i64 s] w (Pieces w l s) := by
  have hW := right_walk s w
  rw [decide_eq_true (by omega)] at hW
  have HW := Lib.hid hW
  have HS := Lib.hid (fun W => sectors_walk l.length s hs hs2 hl W)
  obtain ⟨h1, h2⟩ := many_full l.length s hs
  have h3 := many_le l.length s hs
  have HP : Aside0 (∀ e w', (∃ v g cells, e = .returned (.tuple #[v, .int .i64 0]) ∧ (Kd.scalar (pv g s) (pv_one g s)).R 25 w' w.heap.size (fun k => w.heap.size ≤ k ∧ k ≠ g) v (List.range (many l.length s)) ∧
    w'.heap[g]? = some (.cells cells 5 (0, 0)) ∧ cells.toList.take (many l.length s * s) = (full l s).map (Value.int .u8) ∧ w.heap.size ≤ g ∧ Below w.heap.size w w') → Pieces w l s e w') := ⟨fun e w' h => h⟩
  have hfull : full l s = l ++ List.replicate (many l.length s * s - l.length) 0 := rfl
  rw [hfull] at HP
  clear hW hfull
  generalize many l.length s = n at *
  obtain ⟨M, hM⟩ : ∃ M, n * s = M := ⟨_, rfl⟩
  rw [hM] at h1 h2 HP
  have hMi : (n : Int) * (s : Int) = (M : Int) := by rw [← hM, Int.natCast_mul]
  have HM := Aside0.mk hM
  have HRd := Aside0.mk (Kd.reads_of_C (d := (0 : Int)) hr)
  have hM0 : (0 : Int) ≤ (M : Int) := by omega
  have hM1 : (M : Int) ≤ 110000 := by omega
  clear hM hr
  go_enter Tryd.func14, Tryd.ntmps14
  go_upto_region 5 with (first
    | (go_at_call 32; (with_reducible refine HW.out.mono ?_); rintro e w1 ⟨rfl, rfl⟩)
    | (go_at_call 15; (with_reducible refine (HS.out _).mono ?_); rintro e w1 ⟨rfl, hd⟩; have HB := Aside0.mk hd.below; clear hd)
    | ((with_reducible refine gate_dst (N := 20) rfl ?_); refine Kd.R_make (Kd.int .u8) _ 5 rfl (N := 20) rfl 25 _ _ rfl (M : Int) rfl rfl Tryd.underlying25 (.int .u8 0) 1 infoB' rfl (by decide) (by omega) 0 (ok := fun _ => True) (okp := fun _ => True) rfl (fun _ hk => hk) trivial (by omega) (by omega) HB.out HB.out.size ?_; intro v2 w2 ho hb _ _; obtain ⟨g, cap, cur, rfl, hgw, hg1, hg2, hg3, hg4⟩ := own_some (n := M) (by simpa using Kd.own_of_R ho) (by omega); have HG := Aside0.mk (hg1); have HG4 := Lib.hid hg4; have HB2 := Aside0.mk hb; clear ho hb hg1 hg4))
  have hcp := src_of HRd.out hp HB2.out
  have hone : ∀ v ∈ l.map (Value.int .u8), v.oneCell' = true := by
    intro v hv
    obtain ⟨x, _, rfl⟩ := List.mem_map.1 hv
    rfl
  have hcf : 0 + (l.map (Value.int .u8)).length ≤ cur.toList.length := by simp; omega
  have hcg : w2.heap[g]? = some (.cells cur.toList.toArray 5 (0, 0)) := by simpa using HG.out
  have hcn : (l.map (Value.int .u8)).length = Nat.min l.length M := by rw [List.length_map]; exact (Nat.min_eq_left h1).symm
  have hsf := splice_full cur.toList l M HG4.out (by simp; omega) h1
  have HCP := Aside0.mk hcp
  have HONE := Aside0.mk hone
  have HCF := Aside0.mk hcf
  have HCG := Aside0.mk hcg
  have HCN := Aside0.mk hcn
  have HSF := Aside0.mk hsf
  have HLEN : Aside0 ((splice cur.toList 0 (l.map (Value.int .u8))).length = cap) := ⟨by rw [length_splice _ _ _ hcf]; simp; omega⟩
  clear hcp hone hcf hcg hcn hsf
  go_wp2_with (refine wpList_copy_splice (o := ⟨some 23, _, _, _, _, _⟩) rfl (.tmp 21) (.tmp 22) _ _ rfl 5 Tryd.underlying25 size5' (some ⟨g, 0, none⟩) A M cap l.length c rfl rfl g 0 cur.toList 5 HCG.out (l.map (Value.int .u8)) HCN.out (fun _ => ⟨rfl, HCP.out⟩) HCF.out HONE.out w.heap.size w HB2.out hgw ?_; intro w3 hg5 hb3; have HB3 := Aside0.mk hb3; clear hb3)
  generalize splice cur.toList 0 (l.map (Value.int .u8)) = L at *
  go_loopw [8, 25] (fun v i wr => ∃ k : Nat, k ≤ n ∧ i = .int .i64 k ∧ Aside0 ((Kd.scalar (pv g s) (pv_one g s)).R 25 wr w.heap.size (fun k => w.heap.size ≤ k ∧ k ≠ g) v (List.range k)) ∧ Hid (wr.heap[g]? = some (.cells L.toArray 5 (0, 0))) ∧ Aside0 (Below w.heap.size w wr)) (fun _ i _ => n - (intOf i).toNat)
  case atStart => exact ⟨0, Nat.zero_le _, rfl, ⟨Kd.R_nil _ _ _ _ _⟩, hg5, HB3⟩
  case round =>
    obtain ⟨k, hk, rfl, hO, hG, hB⟩ := hrel
    clear hg5 HB3
    by_cases hlt : k < n
    · obtain ⟨a, ha⟩ : ∃ a, k * s = a := ⟨_, rfl⟩
      have hab : a + s ≤ M := by
        have h5 : (k + 1) * s ≤ n * s := Nat.mul_le_mul_right _ (by omega)
        rw [HM.out, Nat.add_mul, Nat.one_mul, ha] at h5
        exact h5
      have hA : (k : Int) * (s : Int) = (a : Int) := by rw [← ha, Int.natCast_mul]
      have hB1 : ((k : Int) + 1) * (s : Int) = ((a + s : Nat) : Int) := by rw [Int.add_mul, hA]; omega
      have hpv : pv g s k = .slice (some ⟨g, a, none⟩) s s := by unfold pv; rw [ha]
      have hsl := cut_piece g M cap a s (by omega) hs
      have HPV := Aside0.mk hpv
      have hrs : List.range (k + 1) = List.range k ++ [k] := List.range_succ
      have HRS := Aside0.mk hrs
      clear ha hpv hrs HW HS
      obtain ⟨b, hb⟩ : ∃ b, a + s = b := ⟨_, rfl⟩
      rw [hb] at hab hB1 hsl
      have hb0 : (a : Int) ≤ (b : Int) := by omega
      have hb1 : (b : Int) ≤ (M : Int) := by omega
      clear hb
      obtain ⟨Av, cv, hv⟩ := Kd.R_slice hO.out
      rw [List.length_range] at hv
      subst hv
      have hgl : g < wr.heap.size := (Array.getElem?_eq_some_iff.1 hG.out).1
      have hM_ : (Kd.scalar (pv g s) (pv_one g s)).M wr w.heap.size (fun _ => False) k [.slice (some ⟨g, a, none⟩) s s] := by rw [← HPV.out]; rfl
      have HMM := Aside0.mk hM_
      have HFR : Aside0 (∀ k, wr.heap.size ≤ k → w.heap.size ≤ k ∧ k ≠ g) := ⟨fun k hk => ⟨Nat.le_trans hB.out.size hk, by omega⟩⟩
      have HLL : Aside0 (((List.range k).length + 1) * 24 ≤ 140737488355328) := ⟨by rw [List.length_range]; omega⟩
      clear hM_
      go_wp2_with ((with_reducible refine gate_builtin (b := .append) rfl ?_); go_loud (refine Kd.R_append (Kd.scalar (pv g s) (pv_one g s)) (w0 := w) w.heap.size rfl (.tmp 28) (.tmp 42) 31 25 (.slice none 0 0) 24 rfl Tryd.underlying31 infoP rfl (show 0 < 1 from Nat.one_pos) (by omega) (.slice Av k cv) (List.range k) k [.slice (some ⟨g, a, none⟩) s s] (fun k => w.heap.size ≤ k ∧ k ≠ g) (fun _ => False) rfl rfl HMM.out (fun _ h => h.elim) HFR.out hO.out hB.out hB.out.size HLL.out ?_); intro v1 w4 ho hb4 hg4 _; have HO := Aside0.mk ho; have HB := Aside0.mk hb4; have HG2 := Lib.hid (blk_grown hg4 hG.out (fun e => (hO.out.1 g e.symm).2 rfl)); clear ho hb4 hg4)
      go_roundw
      case rel => exact ⟨k + 1, by omega, by go_num, ⟨by rw [HRS.out]; exact HO.out⟩, HG2, HB⟩
      case measure => simp [intOf]; omega
    · obtain rfl : k = n := by omega
      go_wp2_with fail
      go_ret2
      exact HP.out _ _ ⟨_, g, L.toArray, rfl, hO.out, hG.out, HSF.out, hgw, hB.out⟩
set_option maxHeartbeats 1600000 in
theorem cut_nil (A : Option Addr) (c s : Nat) (w : World) (hs : 1 ≤ s) (hs2 : s ≤ 4096) :
    Calls Tryd.prog 14 #[.slice A 0 c, .int .i64 s] w fun e w' => e = .returned (.tuple #[.slice none 0 0, .int .i64 0]) ∧ Below w.heap.size w w' := by
  have hW := right_walk s w
  rw [decide_eq_true (by omega)] at hW
  have HW := Lib.hid hW
  have HS := Lib.hid (fun W => sectors_walk 0 s hs hs2 (by omega) W)
  have h0 : many 0 s = 0 := rfl
  rw [h0] at HS
  clear hW h0
  go_enter Tryd.func14, Tryd.ntmps14
  go_wp2_with (first
    | (go_at_call 32; (with_reducible refine HW.out.mono ?_); rintro e w1 ⟨rfl, rfl⟩)
    | (go_at_call 15; (refine (HS.out _).mono ?_); rintro e w1 ⟨rfl, hd⟩; have HB := Aside0.mk hd.below; clear hd)
    | ((with_reducible refine gate_dst (N := 20) rfl ?_); refine Kd.R_make (Kd.int .u8) _ 5 rfl (N := 20) rfl 25 _ _ rfl 0 rfl rfl Tryd.underlying25 (.int .u8 0) 1 infoB' rfl (by decide) (by omega) 0 (ok := fun _ => True) (okp := fun _ => True) rfl (fun _ hk => hk) trivial (by omega) (by omega) HB.out HB.out.size ?_; intro v2 w2 ho hb _ _; obtain ⟨A2, c2, hv⟩ := Kd.R_slice ho; rw [show (List.replicate (0 : Int).toNat (0 : Int)).length = 0 from rfl] at hv; subst hv; have HB2 := Aside0.mk hb; clear ho hb)
    | (refine wpList_copy_nothing (o := ⟨some 23, _, _, _, _, _⟩) rfl (.tmp 21) (.tmp 22) _ _ rfl 5 Tryd.underlying25 size5' A2 A 0 c2 0 c rfl rfl rfl ?_))
  go_loop [8, 25] (fun v i => v = .slice none 0 0 ∧ i = .int .i64 0) (fun _ _ => 0)
  case atStart => exact ⟨rfl, rfl⟩
  case round =>
    obtain ⟨rfl, rfl⟩ := hrel
    go_wp2_with fail
    go_ret2
    exact ⟨rfl, HB2.out⟩
theorem pc_len (l : List Int) (s : Nat) : (pc l s).length = many l.length s := by simp [pc]
theorem pc_at (l : List Int) (s j : Nat) (hj : j < many l.length s) : (pc l s)[j]? = some (((full l s).drop (j * s)).take s) := by simp [pc, hj]
theorem piece_len (l : List Int) (s j : Nat) (hs : 0 < s) (hj : j < many l.length s) : (((full l s).drop (j * s)).take s).length = s := by
  have h1 := full_len l s hs
  have h2 : (j + 1) * s ≤ many l.length s * s := Nat.mul_le_mul_right _ (by omega)
  rw [Nat.add_mul, Nat.one_mul] at h2
  rw [List.length_take, List.length_drop, h1]
  omega
theorem piece_cell {W : World} {g s n : Nat} {cells : Array Value} {xs : List Int} (hg : W.heap[g]? = some (.cells cells 5 (0, 0))) (ht : cells.toList.take n = xs.map (Value.int .u8)) (i : Nat) (x : Int) (hi : i < n) (hx : xs[i]? = some x) :
    W.cell? ⟨g, i, none⟩ = some (.int .u8 x) := by
  have h1 : (cells.toList.take n)[i]? = some (.int .u8 x) := by rw [ht, List.getElem?_map, hx]; rfl
  rw [List.getElem?_take, if_pos hi] at h1
  have h2 : cells[i]? = some (.int .u8 x) := by simpa using h1
  simp [World.cell?, hg, h2]
theorem add_off (g o j : Nat) : (⟨g, o, none⟩ : Addr).add j = ⟨g, o + j, none⟩ := by unfold Addr.add; split <;> simp_all
theorem pieces_V {w w' : World} {l : List Int} {s g : Nat} {v : Value} {cells : Array Value} (hs : 1 ≤ s) (hs2 : s ≤ 4096) (hl : l.length ≤ 100000)
    (hO : (Kd.scalar (pv g s) (pv_one g s)).R 25 w' w.heap.size (fun k => w.heap.size ≤ k ∧ k ≠ g) v (List.range (many l.length s)))
    (hg : w'.heap[g]? = some (.cells cells 5 (0, 0))) (ht : cells.toList.take (many l.length s * s) = (full l s).map (Value.int .u8)) (hgw : w.heap.size ≤ g) :
    Kd.V (Kd.slice 5 (Kd.int .u8)) 25 w' w.heap.size (fun k_ => w.heap.size ≤ k_) v (pc l s) := by
  obtain ⟨A, c, rfl, hle, _⟩ := Kd.R_reads hO
  rw [List.length_range] at hle ⊢
  rw [← pc_len l s]
  refine Kd.V_mk (by rw [pc_len]; exact hle) (fun W' hW => ?_)
  have hO' := Kd.R_step hO (fun k hk hlt => hW k hk.1 hlt)
  have hlt := (Array.getElem?_eq_some_iff.1 hg).1
  have hg' := (hW g hgw hlt).trans hg
  rw [List.length_range] at hO'
  obtain ⟨_, _, hC⟩ := Kd.R_reads' hO'
  rw [List.length_range] at hC
  refine ⟨rfl, by rw [pc_len]; exact hC.2.1, fun hn => ?_⟩
  rw [pc_len] at hn
  obtain ⟨ad, e, hc⟩ := hC.2.2 hn
  refine ⟨ad, e, fun j p hj => ?_⟩
  have hjl : j < many l.length s := by have := (List.getElem?_eq_some_iff.1 hj).1; rwa [pc_len] at this
  rw [pc_at l s j hjl] at hj
  injection hj with hj
  subst hj
  obtain ⟨c', hc1, hc2, hc3⟩ := hc j j (by simp [hjl])
  refine ⟨c', hc1, ?_, hc3⟩
  have hpl := piece_len l s j (by omega) hjl
  have hc2' : c' = [pv g s j] := hc2
  subst hc2'
  refine ⟨some ⟨g, j * s, none⟩, s, by rw [hpl]; rfl, by omega, ⟨rfl, by rw [hpl]; omega, fun _ => ⟨_, rfl, fun i x hx => ⟨[.int .u8 x], rfl, rfl, fun i' u hu => ?_⟩⟩⟩⟩
  have hi : i < s := by have := (List.getElem?_eq_some_iff.1 hx).1; omega
  obtain rfl : i' = 0 := by
    cases i' with
    | zero => rfl
    | succ n => simp at hu
  obtain rfl : Value.int .u8 x = u := by simpa using hu
  have h5 : (j + 1) * s ≤ many l.length s * s := Nat.mul_le_mul_right _ (by omega)
  rw [Nat.add_mul, Nat.one_mul] at h5
  rw [List.getElem?_take, if_pos hi, List.getElem?_drop] at hx
  have := piece_cell (s := s) hg' ht (j * s + i) x (by omega) hx
  rw [add_off]
  simpa [show (Kd.int .u8).sz = 1 from rfl] using this
theorem image_Cut.calls (A : Option Addr) (c : Nat) (l : List Int) (s : Int) (r1 : List (List Int)) (r2 : Int) (w : World) (hr : (Kd.int .u8).C w A l.length l) (hc : l.length ≤ c) (h : image_Cut.f l s = some (r1, r2)) :
    Calls Tryd.prog 14 #[.slice A l.length c, .int .i64 s] w fun e w' => ∃ v0_ : Value, e = .returned (.tuple #[v0_, .int .i64 r2]) ∧ Kd.V (Kd.slice 5 (Kd.int .u8)) 25 w' w.heap.size (fun k_ => w.heap.size ≤ k_) v0_ r1 ∧ Below w.heap.size w w' := by
  unfold image_Cut.f at h
  split at h
  · injection h with h
    injection h with h1 h2
    subst h1 h2
    exact (cut_no A c l s w (by omega)).mono fun e w' ⟨he, hw⟩ => ⟨_, he, Kd.V_nil _ _ _ _ _, by subst hw; exact Below.refl _ _⟩
  · split at h
    · rename_i hs hl
      injection h with h
      injection h with h1 h2
      subst h1 h2
      obtain ⟨s, rfl⟩ : ∃ n : Nat, s = n := ⟨s.toNat, by omega⟩
      rw [Int.toNat_natCast]
      cases l with
      | nil =>
        refine (cut_nil A c s w (by omega) (by omega)).mono fun e w' ⟨he, hb⟩ => ⟨_, he, ?_, hb⟩
        have : pc ([] : List Int) s = [] := rfl
        rw [this]
        exact Kd.V_nil _ _ _ _ _
      | cons x l =>
        refine (cut_yes A c (x :: l) s w hr hc (by omega) (by omega) hl (by simp)).mono fun e w' h => ?_
        obtain ⟨v, g, cells, he, hO, hg, ht, hgw, hb⟩ := h
        exact ⟨v, he, pieces_V (by omega) (by omega) hl hO hg ht hgw, hb⟩
    · cases h
end Go.Proofs.YtmlldfkmmmncgaaDoor.Given
