/- A new cartridge's image: the walks of bytes.Repeat (one byte, many times) and image.Factory. -/
import Derived.Test.YtmlldfkmmmncgaaDoorAx1
import Derived.Test.YtmlldfkmmmncgaaDoorAx2
import Derived.Test.YtmlldfkmmmncgaaDoorJoin
import Derived.Test.YtmlldfkmmmncgaaDoorUnpack
import Derived.Test.YtmlldfkmmmncgaaDoorMul
import Derived.Deep.RegionLaw
set_option linter.unusedVariables false
set_option linter.unusedSimpArgs false
namespace Go.Proofs.YtmlldfkmmmncgaaDoor.Given
open Go.RowKit Go.Proofs.YtmlldfkmmmncgaaDoor.All Go.Proofs.YtmlldfkmmmncgaaDoorW.PrintWords Go.Proofs.YtmlldfkmmmncgaaDoorW.PrintLast Go.Proofs.YtmlldfkmmmncgaaDoorW.PrintMore
attribute [local go_sem] max2_int min2_int max_two min_two

theorem step_copy_own {P : Program} {ops : Array Oper} {o : Oper} {a : Act} {w : World} {K : Act → World → Prop} {Q : Exit → Act → World → Prop} {E : Prop} (hgd : o.guard = none) (d s : Operand) (dT sT : TypeId)
    (ho : o.op = .call { callee := .builtin .copy, args := #[d, s], argTypes := #[dT, sT] }) (elem : TypeId) (hu : P.underlying dT = some (.slice elem)) (hsz : (P.info? elem).map (·.size) = some 1)
    (g off dLen dCap : Nat) (ad : Addr) (sLen sCap : Nat) (hd : a.eval d = .slice (some ⟨g, off, none⟩) dLen dCap) (hs : a.eval s = .slice (some ad) sLen sCap)
    (cur : Array Value) (t : TypeId) (hg : w.heap[g]? = some (.cells cur t (0, 0))) (cs : List Value) (hn : cs.length = Nat.min sLen dLen)
    (hsrc : ∀ j v, cs[j]? = some v → w.cell? (ad.add j) = some v) (hfit : off + cs.length ≤ cur.size) (h1 : ∀ v ∈ cs, v.oneCell' = true)
    (h : K (a.put o.dst (goInt cs.length)) (w.setRow g (cur.toList.take off ++ (cs ++ cur.toList.drop (off + cs.length))).toArray)) :
    if Region.wanted o (yielded ops a.tmps) = true then Oper.wp P o a w K Q else E := by
  have hw : Region.wanted o (yielded ops a.tmps) = true := by simp [Region.wanted, hgd]
  rw [if_pos hw]
  have hrun := run_copy_row (P := P) w dT sT o.type elem g off dLen dCap ad sLen sCap cur t cs hu hsz hg hn hsrc hfit h1
  unfold Oper.wp
  simp [execOp, ho, resolve, invoke, builtin, hd, hs, hrun, Result.andThen]
  exact h
abbrev ff (n : Nat) : List Int := List.replicate n 255
/-- The bytes that are repeated. -/
def Rep (w : World) (n : Nat) (e : Ending) (w' : World) : Prop := ∃ g, e = .returned (.slice (some ⟨g, 0, none⟩) n n) ∧ Laid0 w' g n (ff n) ∧ w.heap.size ≤ g ∧ Below w.heap.size w w'
theorem repeat_none (A : Option Addr) (c : Nat) (w : World) : Calls Tryd.prog 30 #[.slice A 1 c, .int .i64 0] w (Rep w 0) := by
  have HP : Aside0 (Rep w 0 (.returned (.slice (some ⟨w.heap.size, 0, none⟩) 0 0)) (w.alloc (.cells #[] 5))) := ⟨⟨_, rfl, ⟨[], heap_alloc_new w _, Nat.le_refl _, rfl, Nat.le_refl _⟩, Nat.le_refl _, (Below.refl _ _).alloc (Nat.le_refl _) _⟩⟩
  go_enter Tryd.func30, Tryd.ntmps30
  go_wp2
  go_ret
  exact HP.out
theorem laid_cells {W : World} {g T n k : Nat} (h : Laid0 W g T (ff n)) (hk : k ≤ n) : ∀ j v, ((ff k).map (Value.int .u8))[j]? = some v → W.cell? ((⟨g, 0, none⟩ : Addr).add j) = some v := by
  obtain ⟨L, h1, h2, h3, h4⟩ := h
  intro j v hj
  rw [List.getElem?_map] at hj
  obtain ⟨x, hx, rfl⟩ := Option.map_eq_some_iff.1 hj
  have hjk := (List.getElem?_eq_some_iff.1 hx).1
  rw [List.length_replicate] at hjk h3 h4
  have hx2 : (ff n)[j]? = some x := by
    rw [List.getElem?_replicate] at hx ⊢
    rw [if_pos hjk] at hx
    rw [if_pos (by omega)]
    exact hx
  have := piece_cell (s := 0) (n := n) h1 (by simpa using h3) j x (by omega) hx2
  rwa [add_plain]
theorem laid_row {W : World} {G N a k : Nat} {L ys : List Value} (h : W.heap[G]? = some (.cells L.toArray 5 (0, 0))) (hN : N ≤ L.length) (ht : L.take (ff a).length = (ff a).map (Value.int .u8)) (hy : (ff k).map (Value.int .u8) = ys) (hk : a + k ≤ N) :
    Laid0 (W.drew.setRow G (L.toArray.toList.take a ++ (ys ++ L.toArray.toList.drop (a + ys.length))).toArray) G N (ff (a + k)) := by
  subst hy
  have e : ff (a + k) = ff a ++ ff k := (List.replicate_append_replicate ..).symm
  rw [e]
  refine laid_put (L := L) hN ht (by simpa using hk) ?_
  have h2 : W.drew.heap[G]? = some (.cells L.toArray 5 (0, 0)) := h
  rw [setRow_heap _ _ _ _ _ _ h2]
  simp [splice]
set_option maxHeartbeats 3200000 in
set_option maxRecDepth 100000 in
theorem repeat_many (ad : Addr) (c N : Nat) (w : World) (hr : w.cell? ad = some (.int .u8 255)) (h1 : 1 ≤ N) (h2 : N ≤ 1000000) : Calls Tryd.prog 30 #[.slice (some ad) 1 c, .int .i64 N] w (Rep w N) := by
  have HM := Lib.hid (fun W => bits_Mul.calls 1 N 0 N W (mul_one_f N (by omega) (by omega)))
  have HR := Aside0.mk hr
  have e0 : ((N : Int) == 0) = false := beq_eq_false_iff_ne.2 (by omega)
  have e1 : decide (9223372036854775807 < (N : Int)) = false := decide_eq_false (by omega)
  have hw : IntKind.u64.wrap (N : Int) = N := by rw [IntKind.wrap_u64]; omega
  clear hr
  by_cases hb : 8192 < N
  · have hb' : (8192 : Int) < (N : Int) := by omega
    go_enter Tryd.func30, Tryd.ntmps30
    go_upto_region 16 with (go_at_call 42; (with_reducible refine (HM.out _).mono ?_); rintro e w1 ⟨rfl, hd⟩; have HB := Aside0.mk hd.below; clear hd)
    obtain ⟨cs, hrunM, hle, _⟩ := Lib.run_makeNoZero (P := Tryd.prog) w1 #[3] 25 5 Tryd.underlying25 N (by omega)
    have hcall : (callFunc 43 #[.int .i64 (N : Int)]).run Tryd.prog w1 = .ok (.value (.slice (some ⟨w1.heap.size, 0, none⟩) N cs.size)) ((w1.alloc (.cells cs 5)).drewN 2) := by
      rw [run_callFunc_extern Tryd.func43 (by kernel_rfl) (by kernel_rfl) (by kernel_rfl) (e := Extern.BytealgMakeNoZero.makeNoZero #[3] #[25]) (by kernel_rfl), hrunM]
      rfl
    clear hrunM
    have i0 : (0 : Int) ≤ (N : Int) := by omega
    have i1 : (N : Int) ≤ (cs.size : Int) := by omega
    go_upto_region 17 with (fail)
    clear hcall
    have hb0 : Below w.heap.size w ((w1.alloc (.cells cs 5)).drewN 2) := HB.out.trans ((pw_below_drewN ((Below.refl _ _).alloc (Nat.le_refl _) _) 2).mono HB.out.size)
    have hg0 : ((w1.alloc (.cells cs 5)).drewN 2).heap[w1.heap.size]? = some (.cells cs 5 (0, 0)) := heap_alloc_new w1 _
    have hgw : w.heap.size ≤ w1.heap.size := HB.out.size
    generalize (w1.alloc (.cells cs 5)).drewN 2 = W0 at *
    generalize w1.heap.size = G at *
    have HC0 : Aside0 (∀ j v, (([255] : List Int).map (Value.int .u8))[j]? = some v → W0.cell? (ad.add j) = some v) := ⟨by
      intro j v hj
      cases j with
      | zero =>
        simp at hj
        subst hj
        have := pw_cell_below hb0 HR.out
        simpa [Addr.add] using this
      | succ j => simp at hj⟩
    have HO0 : Aside0 (∀ v ∈ ([255] : List Int).map (Value.int .u8), v.oneCell' = true) := ⟨by simp [Value.oneCell']⟩
    have HG0 : Aside0 (W0.heap[G]? = some (.cells cs.toList.toArray 5 (0, 0))) := ⟨by simpa using hg0⟩
    have HN0 : Aside0 ((([255] : List Int).map (Value.int .u8)).length = Nat.min 1 N) := ⟨(Nat.min_eq_left h1).symm⟩
    have HF0 : Aside0 (0 + (([255] : List Int).map (Value.int .u8)).length ≤ cs.toList.length) := ⟨by simp; omega⟩
    have HLEN : Aside0 (N ≤ cs.toList.length) := ⟨by simp; omega⟩
    have HB0 := Aside0.mk hb0
    clear hb0 hg0
    go_wp2_with ((with_reducible refine gate_dst (N := 60) rfl ?_); refine wpList_copy_splice rfl (.tmp 58) (.tmp 59) _ _ rfl 5 Tryd.underlying25 size5' (some ⟨G, 0, none⟩) (some ad) N N 1 c rfl rfl G 0 cs.toList 5 HG0.out (([255] : List Int).map (Value.int .u8)) HN0.out (fun _ => ⟨rfl, ad, rfl, HC0.out⟩) HF0.out HO0.out w.heap.size w HB0.out hgw ?_; intro W1 hg1 hb1; have HLD := Aside0.mk (laid_put (L := cs.toList) (acc := []) (ys := [255]) HLEN.out rfl (by simpa using h1) hg1.out); have HB1 := Aside0.mk hb1; clear hg1 hb1)
    go_loopw [10] (fun s wr => ∃ a : Nat, 1 ≤ a ∧ a ≤ N ∧ s = .int .i64 a ∧ Aside0 (Laid0 wr G N (ff a)) ∧ Aside0 (Below w.heap.size w wr)) (fun s _ => N - (intOf s).toNat)
    case atStart => exact ⟨1, Nat.le_refl _, h1, rfl, HLD, HB1⟩
    case round =>
      obtain ⟨a, ha1, haN, rfl, hLD, hB⟩ := hrel
      clear HLD HB1
      by_cases hlt : a < N
      · by_cases hM : 8192 < a
        · obtain ⟨L, hL1, hL2, hL3, hL4⟩ := hLD.out
          obtain ⟨k, hk⟩ : ∃ k, Nat.min 8192 (N - a) = k := ⟨_, rfl⟩
          have hk0 : 1 ≤ k ∧ k ≤ 8192 ∧ k ≤ N - a := by rw [← hk]; exact ⟨Nat.le_min.2 ⟨by omega, by omega⟩, Nat.min_le_left _ _, Nat.min_le_right _ _⟩
          obtain ⟨hk1, hk2, hk3⟩ := hk0
          have hsl1 := run_tail G N a haN
          rw [show tailA G N a = some ⟨G, a, none⟩ by unfold tailA; rw [if_neg (by omega)]] at hsl1
          obtain ⟨ib, hib, _⟩ := infoB2
          have hsl2 := cut_to (P := Tryd.prog) 25 5 .i64 Tryd.underlying25 hib (some ⟨G, 0, none⟩) N N (8192) (by omega) (by omega) (Nat.le_refl _)
          simp only [show (8192 : Int).toNat = 8192 from rfl] at hsl2
          have hw2 : IntKind.i64.wrap ((a : Int) + (k : Int)) = ((a + k : Nat) : Int) := by rw [IntKind.wrap_i64]; omega
          have HSRC := Aside0.mk (laid_cells (k := k) hLD.out (by omega))
          have HL1 := Aside0.mk hL1
          have HCN : Aside0 (((ff k).map (Value.int .u8)).length = Nat.min 8192 (N - a)) := ⟨by rw [hk]; simp⟩
          have HFI : Aside0 (a + ((ff k).map (Value.int .u8)).length ≤ L.toArray.size) := ⟨by simp; omega⟩
          have HONE : Aside0 (∀ v ∈ (ff k).map (Value.int .u8), v.oneCell' = true) := ⟨by
            intro v hv
            obtain ⟨x, _, rfl⟩ := List.mem_map.1 hv
            rfl⟩
          have HLT := Aside0.mk hL3
          have HLN := Aside0.mk hL2
          have hkl : ((ff k).map (Value.int .u8)).length = k := by simp
          have HKL := Aside0.mk hkl
          obtain ⟨ys, hys⟩ : ∃ ys, (ff k).map (Value.int .u8) = ys := ⟨_, rfl⟩
          have HYS := Aside0.mk hys
          rw [hys] at HSRC HCN HFI HONE HKL
          have hga : goInt (ys.length : Int) = .int .i64 (k : Int) := by rw [HKL.out]; rfl
          clear hL1 hL3 hib hk hkl hys
          go_wp2_with fail
          refine start_ (n := 10) (S := fun _ => True) (ds := []) #[false, false, false, false, false, false, false, false, false, false] (by kernel_rfl) rfl rfl trivial (fun hHeld => ?_)
          refine pure_ (i := 0) (N := some 67) (v := ?_) (a' := ?_) #[true, false, false, false, false, false, false, false, false, false] rfl rfl (any_of rfl (by kernel_rfl)) (fun _ _ _ h => h) (Or.inl ⟨by rfl, ?_⟩) ?_ ?_
          rotate_left
          · intro w'
            go_simp
            with_reducible rfl
          rotate_left
          · simp only [Act.put, List.setIfInBounds_toArray, List.set_cons_zero, List.set_cons_succ, i64_w, i32_w]
            rfl
          refine pure_ (i := 1) (N := some 68) (v := ?_) (a' := ?_) #[true, true, false, false, false, false, false, false, false, false] rfl rfl (any_of rfl (by kernel_rfl)) (fun _ _ _ h => h) (Or.inl ⟨by rfl, ?_⟩) ?_ ?_
          rotate_left
          · intro w'
            go_simp
            with_reducible rfl
          rotate_left
          · simp only [Act.put, List.setIfInBounds_toArray, List.set_cons_zero, List.set_cons_succ, i64_w, i32_w]
            rfl
          refine pure_ (i := 2) (N := some 69) (v := ?_) (a' := ?_) #[true, true, true, false, false, false, false, false, false, false] rfl rfl (any_of rfl (by kernel_rfl)) (fun _ _ _ h => h) (Or.inl ⟨by rfl, ?_⟩) ?_ ?_
          rotate_left
          · intro w'
            go_simp
            with_reducible rfl
          rotate_left
          · simp only [Act.put, List.setIfInBounds_toArray, List.set_cons_zero, List.set_cons_succ, i64_w, i32_w]
            rfl
          refine pure_ (i := 3) (N := some 70) (v := ?_) (a' := ?_) #[true, true, true, true, false, false, false, false, false, false] rfl rfl (any_of rfl (by kernel_rfl)) (fun _ _ _ h => h) (Or.inl ⟨by rfl, ?_⟩) ?_ ?_
          rotate_left
          · intro w'
            go_simp
            with_reducible rfl
          rotate_left
          · simp only [Act.put, List.setIfInBounds_toArray, List.set_cons_zero, List.set_cons_succ, i64_w, i32_w]
            rfl
          refine pure_ (i := 4) (N := some 71) (v := ?_) (a' := ?_) #[true, true, true, true, true, false, false, false, false, false] rfl rfl (any_of rfl (by kernel_rfl)) (fun _ _ _ h => h) (Or.inl ⟨by rfl, ?_⟩) ?_ ?_
          rotate_left
          · intro w'
            go_simp
            with_reducible rfl
          rotate_left
          · simp only [Act.put, List.setIfInBounds_toArray, List.set_cons_zero, List.set_cons_succ, i64_w, i32_w]
            rfl
          refine pure_ (i := 5) (N := some 72) (v := ?_) (a' := ?_) #[true, true, true, true, true, true, false, false, false, false] rfl rfl (any_of rfl (by kernel_rfl)) (fun _ _ _ h => h) (Or.inl ⟨by rfl, ?_⟩) ?_ ?_
          rotate_left
          · intro w'
            go_simp
            with_reducible rfl
          rotate_left
          · simp only [Act.put, List.setIfInBounds_toArray, List.set_cons_zero, List.set_cons_succ, i64_w, i32_w]
            rfl
          refine pure_ (i := 6) (N := some 73) (v := ?_) (a' := ?_) #[true, true, true, true, true, true, true, false, false, false] rfl rfl (any_of rfl (by kernel_rfl)) (fun _ _ _ h => h) (Or.inl ⟨by rfl, ?_⟩) ?_ ?_
          rotate_left
          · intro w'
            go_simp
            with_reducible rfl
          rotate_left
          · simp only [Act.put, List.setIfInBounds_toArray, List.set_cons_zero, List.set_cons_succ, i64_w, i32_w]
            rfl
          refine one_ (i := 7) (N := some 74) #[true, true, true, true, true, true, true, true, false, false] rfl rfl (one_of rfl (by kernel_rfl)) (by decide) (fun K hK => ?_)
          refine step_copy_own rfl (.tmp 70) (.tmp 73) 25 25 rfl 5 Tryd.underlying25 size5' G a (N - a) (N - a) ⟨G, 0, none⟩ 8192 N rfl rfl L.toArray 5 HL1.out ys HCN.out HSRC.out HFI.out HONE.out ?_
          rw [hga]
          refine hK.out _ _ trivial (fun hHeld => ?_)
          clear hK K
          refine norm_ (a' := ?_) ?_ ?_
          rotate_left
          · show Act.put _ (some 74) _ = _
            simp only [Act.put, List.setIfInBounds_toArray, List.set_cons_zero, List.set_cons_succ, i64_w, i32_w]
            rfl
          refine pure_ (i := 8) (N := some 75) (v := ?_) (a' := ?_) #[true, true, true, true, true, true, true, true, true, false] rfl rfl (any_of rfl (by kernel_rfl)) (fun _ _ _ h => h) (Or.inl ⟨by rfl, ?_⟩) ?_ ?_
          rotate_left
          · intro w'
            go_simp
            with_reducible rfl
          rotate_left
          · simp only [Act.put, List.setIfInBounds_toArray, List.set_cons_zero, List.set_cons_succ, i64_w, i32_w]
            rfl
          refine pure_ (i := 9) (N := some 10) (v := ?_) (a' := ?_) #[true, true, true, true, true, true, true, true, true, true] rfl rfl (any_of rfl (by kernel_rfl)) (fun _ _ _ h => h) (Or.inl ⟨by rfl, ?_⟩) ?_ ?_
          rotate_left
          · intro w'
            go_simp
            with_reducible rfl
          rotate_left
          · simp only [Act.put, List.setIfInBounds_toArray, List.set_cons_zero, List.set_cons_succ, i64_w, i32_w]
            rfl
          refine done_ (done_of rfl (by kernel_rfl)) ?_
          go_wp2
          go_roundw
          case rel => exact ⟨a + k, by omega, by omega, by rfl, ⟨laid_row HL1.out HLN.out HLT.out HYS.out (by omega)⟩, ⟨below_setRow (by exact below_drew hB.out) hgw _⟩⟩
          case measure => simp [intOf]; omega
        · obtain ⟨L, hL1, hL2, hL3, hL4⟩ := hLD.out
          obtain ⟨k, hk⟩ : ∃ k, Nat.min a (N - a) = k := ⟨_, rfl⟩
          have hk0 : 1 ≤ k ∧ k ≤ a ∧ k ≤ N - a := by rw [← hk]; exact ⟨Nat.le_min.2 ⟨by omega, by omega⟩, Nat.min_le_left _ _, Nat.min_le_right _ _⟩
          obtain ⟨hk1, hk2, hk3⟩ := hk0
          have hsl1 := run_tail G N a haN
          rw [show tailA G N a = some ⟨G, a, none⟩ by unfold tailA; rw [if_neg (by omega)]] at hsl1
          obtain ⟨ib, hib, _⟩ := infoB2
          have hsl2 := cut_to (P := Tryd.prog) 25 5 .i64 Tryd.underlying25 hib (some ⟨G, 0, none⟩) N N ((a : Int)) (by omega) (by omega) (Nat.le_refl _)
          simp only [Int.toNat_natCast] at hsl2
          have hw2 : IntKind.i64.wrap ((a : Int) + (k : Int)) = ((a + k : Nat) : Int) := by rw [IntKind.wrap_i64]; omega
          have HSRC := Aside0.mk (laid_cells (k := k) hLD.out (by omega))
          have HL1 := Aside0.mk hL1
          have HCN : Aside0 (((ff k).map (Value.int .u8)).length = Nat.min a (N - a)) := ⟨by rw [hk]; simp⟩
          have HFI : Aside0 (a + ((ff k).map (Value.int .u8)).length ≤ L.toArray.size) := ⟨by simp; omega⟩
          have HONE : Aside0 (∀ v ∈ (ff k).map (Value.int .u8), v.oneCell' = true) := ⟨by
            intro v hv
            obtain ⟨x, _, rfl⟩ := List.mem_map.1 hv
            rfl⟩
          have HLT := Aside0.mk hL3
          have HLN := Aside0.mk hL2
          have hkl : ((ff k).map (Value.int .u8)).length = k := by simp
          have HKL := Aside0.mk hkl
          obtain ⟨ys, hys⟩ : ∃ ys, (ff k).map (Value.int .u8) = ys := ⟨_, rfl⟩
          have HYS := Aside0.mk hys
          rw [hys] at HSRC HCN HFI HONE HKL
          have hga : goInt (ys.length : Int) = .int .i64 (k : Int) := by rw [HKL.out]; rfl
          clear hL1 hL3 hib hk hkl hys
          go_wp2_with fail
          refine start_ (n := 10) (S := fun _ => True) (ds := []) #[false, false, false, false, false, false, false, false, false, false] (by kernel_rfl) rfl rfl trivial (fun hHeld => ?_)
          refine pure_ (i := 0) (N := some 67) (v := ?_) (a' := ?_) #[true, false, false, false, false, false, false, false, false, false] rfl rfl (any_of rfl (by kernel_rfl)) (fun _ _ _ h => h) (Or.inl ⟨by rfl, ?_⟩) ?_ ?_
          rotate_left
          · intro w'
            go_simp
            with_reducible rfl
          rotate_left
          · simp only [Act.put, List.setIfInBounds_toArray, List.set_cons_zero, List.set_cons_succ, i64_w, i32_w]
            rfl
          refine pure_ (i := 1) (N := some 68) (v := ?_) (a' := ?_) #[true, true, false, false, false, false, false, false, false, false] rfl rfl (any_of rfl (by kernel_rfl)) (fun _ _ _ h => h) (Or.inl ⟨by rfl, ?_⟩) ?_ ?_
          rotate_left
          · intro w'
            go_simp
            with_reducible rfl
          rotate_left
          · simp only [Act.put, List.setIfInBounds_toArray, List.set_cons_zero, List.set_cons_succ, i64_w, i32_w]
            rfl
          refine pure_ (i := 2) (N := some 69) (v := ?_) (a' := ?_) #[true, true, true, false, false, false, false, false, false, false] rfl rfl (any_of rfl (by kernel_rfl)) (fun _ _ _ h => h) (Or.inl ⟨by rfl, ?_⟩) ?_ ?_
          rotate_left
          · intro w'
            go_simp
            with_reducible rfl
          rotate_left
          · simp only [Act.put, List.setIfInBounds_toArray, List.set_cons_zero, List.set_cons_succ, i64_w, i32_w]
            rfl
          refine pure_ (i := 3) (N := some 70) (v := ?_) (a' := ?_) #[true, true, true, true, false, false, false, false, false, false] rfl rfl (any_of rfl (by kernel_rfl)) (fun _ _ _ h => h) (Or.inl ⟨by rfl, ?_⟩) ?_ ?_
          rotate_left
          · intro w'
            go_simp
            with_reducible rfl
          rotate_left
          · simp only [Act.put, List.setIfInBounds_toArray, List.set_cons_zero, List.set_cons_succ, i64_w, i32_w]
            rfl
          refine pure_ (i := 4) (N := some 71) (v := ?_) (a' := ?_) #[true, true, true, true, true, false, false, false, false, false] rfl rfl (any_of rfl (by kernel_rfl)) (fun _ _ _ h => h) (Or.inl ⟨by rfl, ?_⟩) ?_ ?_
          rotate_left
          · intro w'
            go_simp
            with_reducible rfl
          rotate_left
          · simp only [Act.put, List.setIfInBounds_toArray, List.set_cons_zero, List.set_cons_succ, i64_w, i32_w]
            rfl
          refine pure_ (i := 5) (N := some 72) (v := ?_) (a' := ?_) #[true, true, true, true, true, true, false, false, false, false] rfl rfl (any_of rfl (by kernel_rfl)) (fun _ _ _ h => h) (Or.inl ⟨by rfl, ?_⟩) ?_ ?_
          rotate_left
          · intro w'
            go_simp
            with_reducible rfl
          rotate_left
          · simp only [Act.put, List.setIfInBounds_toArray, List.set_cons_zero, List.set_cons_succ, i64_w, i32_w]
            rfl
          refine pure_ (i := 6) (N := some 73) (v := ?_) (a' := ?_) #[true, true, true, true, true, true, true, false, false, false] rfl rfl (any_of rfl (by kernel_rfl)) (fun _ _ _ h => h) (Or.inl ⟨by rfl, ?_⟩) ?_ ?_
          rotate_left
          · intro w'
            go_simp
            with_reducible rfl
          rotate_left
          · simp only [Act.put, List.setIfInBounds_toArray, List.set_cons_zero, List.set_cons_succ, i64_w, i32_w]
            rfl
          refine one_ (i := 7) (N := some 74) #[true, true, true, true, true, true, true, true, false, false] rfl rfl (one_of rfl (by kernel_rfl)) (by decide) (fun K hK => ?_)
          refine step_copy_own rfl (.tmp 70) (.tmp 73) 25 25 rfl 5 Tryd.underlying25 size5' G a (N - a) (N - a) ⟨G, 0, none⟩ a N rfl rfl L.toArray 5 HL1.out ys HCN.out HSRC.out HFI.out HONE.out ?_
          rw [hga]
          refine hK.out _ _ trivial (fun hHeld => ?_)
          clear hK K
          refine norm_ (a' := ?_) ?_ ?_
          rotate_left
          · show Act.put _ (some 74) _ = _
            simp only [Act.put, List.setIfInBounds_toArray, List.set_cons_zero, List.set_cons_succ, i64_w, i32_w]
            rfl
          refine pure_ (i := 8) (N := some 75) (v := ?_) (a' := ?_) #[true, true, true, true, true, true, true, true, true, false] rfl rfl (any_of rfl (by kernel_rfl)) (fun _ _ _ h => h) (Or.inl ⟨by rfl, ?_⟩) ?_ ?_
          rotate_left
          · intro w'
            go_simp
            with_reducible rfl
          rotate_left
          · simp only [Act.put, List.setIfInBounds_toArray, List.set_cons_zero, List.set_cons_succ, i64_w, i32_w]
            rfl
          refine pure_ (i := 9) (N := some 10) (v := ?_) (a' := ?_) #[true, true, true, true, true, true, true, true, true, true] rfl rfl (any_of rfl (by kernel_rfl)) (fun _ _ _ h => h) (Or.inl ⟨by rfl, ?_⟩) ?_ ?_
          rotate_left
          · intro w'
            go_simp
            with_reducible rfl
          rotate_left
          · simp only [Act.put, List.setIfInBounds_toArray, List.set_cons_zero, List.set_cons_succ, i64_w, i32_w]
            rfl
          refine done_ (done_of rfl (by kernel_rfl)) ?_
          go_wp2
          go_roundw
          case rel => exact ⟨a + k, by omega, by omega, by rfl, ⟨laid_row HL1.out HLN.out HLT.out HYS.out (by omega)⟩, ⟨below_setRow (by exact below_drew hB.out) hgw _⟩⟩
          case measure => simp [intOf]; omega
      · obtain rfl : a = N := by omega
        go_wp2_with fail
        go_ret
        exact ⟨G, rfl, hLD.out, hgw, hB.out⟩
  · have hb' : ¬ (8192 : Int) < (N : Int) := by omega
    go_enter Tryd.func30, Tryd.ntmps30
    go_upto_region 16 with (go_at_call 42; (with_reducible refine (HM.out _).mono ?_); rintro e w1 ⟨rfl, hd⟩; have HB := Aside0.mk hd.below; clear hd)
    obtain ⟨cs, hrunM, hle, _⟩ := Lib.run_makeNoZero (P := Tryd.prog) w1 #[3] 25 5 Tryd.underlying25 N (by omega)
    have hcall : (callFunc 43 #[.int .i64 (N : Int)]).run Tryd.prog w1 = .ok (.value (.slice (some ⟨w1.heap.size, 0, none⟩) N cs.size)) ((w1.alloc (.cells cs 5)).drewN 2) := by
      rw [run_callFunc_extern Tryd.func43 (by kernel_rfl) (by kernel_rfl) (by kernel_rfl) (e := Extern.BytealgMakeNoZero.makeNoZero #[3] #[25]) (by kernel_rfl), hrunM]
      rfl
    clear hrunM
    have i0 : (0 : Int) ≤ (N : Int) := by omega
    have i1 : (N : Int) ≤ (cs.size : Int) := by omega
    go_upto_region 17 with (fail)
    clear hcall
    have hb0 : Below w.heap.size w ((w1.alloc (.cells cs 5)).drewN 2) := HB.out.trans ((pw_below_drewN ((Below.refl _ _).alloc (Nat.le_refl _) _) 2).mono HB.out.size)
    have hg0 : ((w1.alloc (.cells cs 5)).drewN 2).heap[w1.heap.size]? = some (.cells cs 5 (0, 0)) := heap_alloc_new w1 _
    have hgw : w.heap.size ≤ w1.heap.size := HB.out.size
    generalize (w1.alloc (.cells cs 5)).drewN 2 = W0 at *
    generalize w1.heap.size = G at *
    have HC0 : Aside0 (∀ j v, (([255] : List Int).map (Value.int .u8))[j]? = some v → W0.cell? (ad.add j) = some v) := ⟨by
      intro j v hj
      cases j with
      | zero =>
        simp at hj
        subst hj
        have := pw_cell_below hb0 HR.out
        simpa [Addr.add] using this
      | succ j => simp at hj⟩
    have HO0 : Aside0 (∀ v ∈ ([255] : List Int).map (Value.int .u8), v.oneCell' = true) := ⟨by simp [Value.oneCell']⟩
    have HG0 : Aside0 (W0.heap[G]? = some (.cells cs.toList.toArray 5 (0, 0))) := ⟨by simpa using hg0⟩
    have HN0 : Aside0 ((([255] : List Int).map (Value.int .u8)).length = Nat.min 1 N) := ⟨(Nat.min_eq_left h1).symm⟩
    have HF0 : Aside0 (0 + (([255] : List Int).map (Value.int .u8)).length ≤ cs.toList.length) := ⟨by simp; omega⟩
    have HLEN : Aside0 (N ≤ cs.toList.length) := ⟨by simp; omega⟩
    have HB0 := Aside0.mk hb0
    clear hb0 hg0
    go_wp2_with ((with_reducible refine gate_dst (N := 60) rfl ?_); refine wpList_copy_splice rfl (.tmp 58) (.tmp 59) _ _ rfl 5 Tryd.underlying25 size5' (some ⟨G, 0, none⟩) (some ad) N N 1 c rfl rfl G 0 cs.toList 5 HG0.out (([255] : List Int).map (Value.int .u8)) HN0.out (fun _ => ⟨rfl, ad, rfl, HC0.out⟩) HF0.out HO0.out w.heap.size w HB0.out hgw ?_; intro W1 hg1 hb1; have HLD := Aside0.mk (laid_put (L := cs.toList) (acc := []) (ys := [255]) HLEN.out rfl (by simpa using h1) hg1.out); have HB1 := Aside0.mk hb1; clear hg1 hb1)
    go_loopw [10] (fun s wr => ∃ a : Nat, 1 ≤ a ∧ a ≤ N ∧ s = .int .i64 a ∧ Aside0 (Laid0 wr G N (ff a)) ∧ Aside0 (Below w.heap.size w wr)) (fun s _ => N - (intOf s).toNat)
    case atStart => exact ⟨1, Nat.le_refl _, h1, rfl, HLD, HB1⟩
    case round =>
      obtain ⟨a, ha1, haN, rfl, hLD, hB⟩ := hrel
      clear HLD HB1
      by_cases hlt : a < N
      · by_cases hM : N < a
        · obtain ⟨L, hL1, hL2, hL3, hL4⟩ := hLD.out
          obtain ⟨k, hk⟩ : ∃ k, Nat.min N (N - a) = k := ⟨_, rfl⟩
          have hk0 : 1 ≤ k ∧ k ≤ N ∧ k ≤ N - a := by rw [← hk]; exact ⟨Nat.le_min.2 ⟨by omega, by omega⟩, Nat.min_le_left _ _, Nat.min_le_right _ _⟩
          obtain ⟨hk1, hk2, hk3⟩ := hk0
          have hsl1 := run_tail G N a haN
          rw [show tailA G N a = some ⟨G, a, none⟩ by unfold tailA; rw [if_neg (by omega)]] at hsl1
          obtain ⟨ib, hib, _⟩ := infoB2
          have hsl2 := cut_to (P := Tryd.prog) 25 5 .i64 Tryd.underlying25 hib (some ⟨G, 0, none⟩) N N ((N : Int)) (by omega) (by omega) (Nat.le_refl _)
          simp only [Int.toNat_natCast] at hsl2
          have hw2 : IntKind.i64.wrap ((a : Int) + (k : Int)) = ((a + k : Nat) : Int) := by rw [IntKind.wrap_i64]; omega
          have HSRC := Aside0.mk (laid_cells (k := k) hLD.out (by omega))
          have HL1 := Aside0.mk hL1
          have HCN : Aside0 (((ff k).map (Value.int .u8)).length = Nat.min N (N - a)) := ⟨by rw [hk]; simp⟩
          have HFI : Aside0 (a + ((ff k).map (Value.int .u8)).length ≤ L.toArray.size) := ⟨by simp; omega⟩
          have HONE : Aside0 (∀ v ∈ (ff k).map (Value.int .u8), v.oneCell' = true) := ⟨by
            intro v hv
            obtain ⟨x, _, rfl⟩ := List.mem_map.1 hv
            rfl⟩
          have HLT := Aside0.mk hL3
          have HLN := Aside0.mk hL2
          have hkl : ((ff k).map (Value.int .u8)).length = k := by simp
          have HKL := Aside0.mk hkl
          obtain ⟨ys, hys⟩ : ∃ ys, (ff k).map (Value.int .u8) = ys := ⟨_, rfl⟩
          have HYS := Aside0.mk hys
          rw [hys] at HSRC HCN HFI HONE HKL
          have hga : goInt (ys.length : Int) = .int .i64 (k : Int) := by rw [HKL.out]; rfl
          clear hL1 hL3 hib hk hkl hys
          go_wp2_with fail
          refine start_ (n := 10) (S := fun _ => True) (ds := []) #[false, false, false, false, false, false, false, false, false, false] (by kernel_rfl) rfl rfl trivial (fun hHeld => ?_)
          refine pure_ (i := 0) (N := some 67) (v := ?_) (a' := ?_) #[true, false, false, false, false, false, false, false, false, false] rfl rfl (any_of rfl (by kernel_rfl)) (fun _ _ _ h => h) (Or.inl ⟨by rfl, ?_⟩) ?_ ?_
          rotate_left
          · intro w'
            go_simp
            with_reducible rfl
          rotate_left
          · simp only [Act.put, List.setIfInBounds_toArray, List.set_cons_zero, List.set_cons_succ, i64_w, i32_w]
            rfl
          refine pure_ (i := 1) (N := some 68) (v := ?_) (a' := ?_) #[true, true, false, false, false, false, false, false, false, false] rfl rfl (any_of rfl (by kernel_rfl)) (fun _ _ _ h => h) (Or.inl ⟨by rfl, ?_⟩) ?_ ?_
          rotate_left
          · intro w'
            go_simp
            with_reducible rfl
          rotate_left
          · simp only [Act.put, List.setIfInBounds_toArray, List.set_cons_zero, List.set_cons_succ, i64_w, i32_w]
            rfl
          refine pure_ (i := 2) (N := some 69) (v := ?_) (a' := ?_) #[true, true, true, false, false, false, false, false, false, false] rfl rfl (any_of rfl (by kernel_rfl)) (fun _ _ _ h => h) (Or.inl ⟨by rfl, ?_⟩) ?_ ?_
          rotate_left
          · intro w'
            go_simp
            with_reducible rfl
          rotate_left
          · simp only [Act.put, List.setIfInBounds_toArray, List.set_cons_zero, List.set_cons_succ, i64_w, i32_w]
            rfl
          refine pure_ (i := 3) (N := some 70) (v := ?_) (a' := ?_) #[true, true, true, true, false, false, false, false, false, false] rfl rfl (any_of rfl (by kernel_rfl)) (fun _ _ _ h => h) (Or.inl ⟨by rfl, ?_⟩) ?_ ?_
          rotate_left
          · intro w'
            go_simp
            with_reducible rfl
          rotate_left
          · simp only [Act.put, List.setIfInBounds_toArray, List.set_cons_zero, List.set_cons_succ, i64_w, i32_w]
            rfl
          refine pure_ (i := 4) (N := some 71) (v := ?_) (a' := ?_) #[true, true, true, true, true, false, false, false, false, false] rfl rfl (any_of rfl (by kernel_rfl)) (fun _ _ _ h => h) (Or.inl ⟨by rfl, ?_⟩) ?_ ?_
          rotate_left
          · intro w'
            go_simp
            with_reducible rfl
          rotate_left
          · simp only [Act.put, List.setIfInBounds_toArray, List.set_cons_zero, List.set_cons_succ, i64_w, i32_w]
            rfl
          refine pure_ (i := 5) (N := some 72) (v := ?_) (a' := ?_) #[true, true, true, true, true, true, false, false, false, false] rfl rfl (any_of rfl (by kernel_rfl)) (fun _ _ _ h => h) (Or.inl ⟨by rfl, ?_⟩) ?_ ?_
          rotate_left
          · intro w'
            go_simp
            with_reducible rfl
          rotate_left
          · simp only [Act.put, List.setIfInBounds_toArray, List.set_cons_zero, List.set_cons_succ, i64_w, i32_w]
            rfl
          refine pure_ (i := 6) (N := some 73) (v := ?_) (a' := ?_) #[true, true, true, true, true, true, true, false, false, false] rfl rfl (any_of rfl (by kernel_rfl)) (fun _ _ _ h => h) (Or.inl ⟨by rfl, ?_⟩) ?_ ?_
          rotate_left
          · intro w'
            go_simp
            with_reducible rfl
          rotate_left
          · simp only [Act.put, List.setIfInBounds_toArray, List.set_cons_zero, List.set_cons_succ, i64_w, i32_w]
            rfl
          refine one_ (i := 7) (N := some 74) #[true, true, true, true, true, true, true, true, false, false] rfl rfl (one_of rfl (by kernel_rfl)) (by decide) (fun K hK => ?_)
          refine step_copy_own rfl (.tmp 70) (.tmp 73) 25 25 rfl 5 Tryd.underlying25 size5' G a (N - a) (N - a) ⟨G, 0, none⟩ N N rfl rfl L.toArray 5 HL1.out ys HCN.out HSRC.out HFI.out HONE.out ?_
          rw [hga]
          refine hK.out _ _ trivial (fun hHeld => ?_)
          clear hK K
          refine norm_ (a' := ?_) ?_ ?_
          rotate_left
          · show Act.put _ (some 74) _ = _
            simp only [Act.put, List.setIfInBounds_toArray, List.set_cons_zero, List.set_cons_succ, i64_w, i32_w]
            rfl
          refine pure_ (i := 8) (N := some 75) (v := ?_) (a' := ?_) #[true, true, true, true, true, true, true, true, true, false] rfl rfl (any_of rfl (by kernel_rfl)) (fun _ _ _ h => h) (Or.inl ⟨by rfl, ?_⟩) ?_ ?_
          rotate_left
          · intro w'
            go_simp
            with_reducible rfl
          rotate_left
          · simp only [Act.put, List.setIfInBounds_toArray, List.set_cons_zero, List.set_cons_succ, i64_w, i32_w]
            rfl
          refine pure_ (i := 9) (N := some 10) (v := ?_) (a' := ?_) #[true, true, true, true, true, true, true, true, true, true] rfl rfl (any_of rfl (by kernel_rfl)) (fun _ _ _ h => h) (Or.inl ⟨by rfl, ?_⟩) ?_ ?_
          rotate_left
          · intro w'
            go_simp
            with_reducible rfl
          rotate_left
          · simp only [Act.put, List.setIfInBounds_toArray, List.set_cons_zero, List.set_cons_succ, i64_w, i32_w]
            rfl
          refine done_ (done_of rfl (by kernel_rfl)) ?_
          go_wp2
          go_roundw
          case rel => exact ⟨a + k, by omega, by omega, by rfl, ⟨laid_row HL1.out HLN.out HLT.out HYS.out (by omega)⟩, ⟨below_setRow (by exact below_drew hB.out) hgw _⟩⟩
          case measure => simp [intOf]; omega
        · obtain ⟨L, hL1, hL2, hL3, hL4⟩ := hLD.out
          obtain ⟨k, hk⟩ : ∃ k, Nat.min a (N - a) = k := ⟨_, rfl⟩
          have hk0 : 1 ≤ k ∧ k ≤ a ∧ k ≤ N - a := by rw [← hk]; exact ⟨Nat.le_min.2 ⟨by omega, by omega⟩, Nat.min_le_left _ _, Nat.min_le_right _ _⟩
          obtain ⟨hk1, hk2, hk3⟩ := hk0
          have hsl1 := run_tail G N a haN
          rw [show tailA G N a = some ⟨G, a, none⟩ by unfold tailA; rw [if_neg (by omega)]] at hsl1
          obtain ⟨ib, hib, _⟩ := infoB2
          have hsl2 := cut_to (P := Tryd.prog) 25 5 .i64 Tryd.underlying25 hib (some ⟨G, 0, none⟩) N N ((a : Int)) (by omega) (by omega) (Nat.le_refl _)
          simp only [Int.toNat_natCast] at hsl2
          have hw2 : IntKind.i64.wrap ((a : Int) + (k : Int)) = ((a + k : Nat) : Int) := by rw [IntKind.wrap_i64]; omega
          have HSRC := Aside0.mk (laid_cells (k := k) hLD.out (by omega))
          have HL1 := Aside0.mk hL1
          have HCN : Aside0 (((ff k).map (Value.int .u8)).length = Nat.min a (N - a)) := ⟨by rw [hk]; simp⟩
          have HFI : Aside0 (a + ((ff k).map (Value.int .u8)).length ≤ L.toArray.size) := ⟨by simp; omega⟩
          have HONE : Aside0 (∀ v ∈ (ff k).map (Value.int .u8), v.oneCell' = true) := ⟨by
            intro v hv
            obtain ⟨x, _, rfl⟩ := List.mem_map.1 hv
            rfl⟩
          have HLT := Aside0.mk hL3
          have HLN := Aside0.mk hL2
          have hkl : ((ff k).map (Value.int .u8)).length = k := by simp
          have HKL := Aside0.mk hkl
          obtain ⟨ys, hys⟩ : ∃ ys, (ff k).map (Value.int .u8) = ys := ⟨_, rfl⟩
          have HYS := Aside0.mk hys
          rw [hys] at HSRC HCN HFI HONE HKL
          have hga : goInt (ys.length : Int) = .int .i64 (k : Int) := by rw [HKL.out]; rfl
          clear hL1 hL3 hib hk hkl hys
          go_wp2_with fail
          refine start_ (n := 10) (S := fun _ => True) (ds := []) #[false, false, false, false, false, false, false, false, false, false] (by kernel_rfl) rfl rfl trivial (fun hHeld => ?_)
          refine pure_ (i := 0) (N := some 67) (v := ?_) (a' := ?_) #[true, false, false, false, false, false, false, false, false, false] rfl rfl (any_of rfl (by kernel_rfl)) (fun _ _ _ h => h) (Or.inl ⟨by rfl, ?_⟩) ?_ ?_
          rotate_left
          · intro w'
            go_simp
            with_reducible rfl
          rotate_left
          · simp only [Act.put, List.setIfInBounds_toArray, List.set_cons_zero, List.set_cons_succ, i64_w, i32_w]
            rfl
          refine pure_ (i := 1) (N := some 68) (v := ?_) (a' := ?_) #[true, true, false, false, false, false, false, false, false, false] rfl rfl (any_of rfl (by kernel_rfl)) (fun _ _ _ h => h) (Or.inl ⟨by rfl, ?_⟩) ?_ ?_
          rotate_left
          · intro w'
            go_simp
            with_reducible rfl
          rotate_left
          · simp only [Act.put, List.setIfInBounds_toArray, List.set_cons_zero, List.set_cons_succ, i64_w, i32_w]
            rfl
          refine pure_ (i := 2) (N := some 69) (v := ?_) (a' := ?_) #[true, true, true, false, false, false, false, false, false, false] rfl rfl (any_of rfl (by kernel_rfl)) (fun _ _ _ h => h) (Or.inl ⟨by rfl, ?_⟩) ?_ ?_
          rotate_left
          · intro w'
            go_simp
            with_reducible rfl
          rotate_left
          · simp only [Act.put, List.setIfInBounds_toArray, List.set_cons_zero, List.set_cons_succ, i64_w, i32_w]
            rfl
          refine pure_ (i := 3) (N := some 70) (v := ?_) (a' := ?_) #[true, true, true, true, false, false, false, false, false, false] rfl rfl (any_of rfl (by kernel_rfl)) (fun _ _ _ h => h) (Or.inl ⟨by rfl, ?_⟩) ?_ ?_
          rotate_left
          · intro w'
            go_simp
            with_reducible rfl
          rotate_left
          · simp only [Act.put, List.setIfInBounds_toArray, List.set_cons_zero, List.set_cons_succ, i64_w, i32_w]
            rfl
          refine pure_ (i := 4) (N := some 71) (v := ?_) (a' := ?_) #[true, true, true, true, true, false, false, false, false, false] rfl rfl (any_of rfl (by kernel_rfl)) (fun _ _ _ h => h) (Or.inl ⟨by rfl, ?_⟩) ?_ ?_
          rotate_left
          · intro w'
            go_simp
            with_reducible rfl
          rotate_left
          · simp only [Act.put, List.setIfInBounds_toArray, List.set_cons_zero, List.set_cons_succ, i64_w, i32_w]
            rfl
          refine pure_ (i := 5) (N := some 72) (v := ?_) (a' := ?_) #[true, true, true, true, true, true, false, false, false, false] rfl rfl (any_of rfl (by kernel_rfl)) (fun _ _ _ h => h) (Or.inl ⟨by rfl, ?_⟩) ?_ ?_
          rotate_left
          · intro w'
            go_simp
            with_reducible rfl
          rotate_left
          · simp only [Act.put, List.setIfInBounds_toArray, List.set_cons_zero, List.set_cons_succ, i64_w, i32_w]
            rfl
          refine pure_ (i := 6) (N := some 73) (v := ?_) (a' := ?_) #[true, true, true, true, true, true, true, false, false, false] rfl rfl (any_of rfl (by kernel_rfl)) (fun _ _ _ h => h) (Or.inl ⟨by rfl, ?_⟩) ?_ ?_
          rotate_left
          · intro w'
            go_simp
            with_reducible rfl
          rotate_left
          · simp only [Act.put, List.setIfInBounds_toArray, List.set_cons_zero, List.set_cons_succ, i64_w, i32_w]
            rfl
          refine one_ (i := 7) (N := some 74) #[true, true, true, true, true, true, true, true, false, false] rfl rfl (one_of rfl (by kernel_rfl)) (by decide) (fun K hK => ?_)
          refine step_copy_own rfl (.tmp 70) (.tmp 73) 25 25 rfl 5 Tryd.underlying25 size5' G a (N - a) (N - a) ⟨G, 0, none⟩ a N rfl rfl L.toArray 5 HL1.out ys HCN.out HSRC.out HFI.out HONE.out ?_
          rw [hga]
          refine hK.out _ _ trivial (fun hHeld => ?_)
          clear hK K
          refine norm_ (a' := ?_) ?_ ?_
          rotate_left
          · show Act.put _ (some 74) _ = _
            simp only [Act.put, List.setIfInBounds_toArray, List.set_cons_zero, List.set_cons_succ, i64_w, i32_w]
            rfl
          refine pure_ (i := 8) (N := some 75) (v := ?_) (a' := ?_) #[true, true, true, true, true, true, true, true, true, false] rfl rfl (any_of rfl (by kernel_rfl)) (fun _ _ _ h => h) (Or.inl ⟨by rfl, ?_⟩) ?_ ?_
          rotate_left
          · intro w'
            go_simp
            with_reducible rfl
          rotate_left
          · simp only [Act.put, List.setIfInBounds_toArray, List.set_cons_zero, List.set_cons_succ, i64_w, i32_w]
            rfl
          refine pure_ (i := 9) (N := some 10) (v := ?_) (a' := ?_) #[true, true, true, true, true, true, true, true, true, true] rfl rfl (any_of rfl (by kernel_rfl)) (fun _ _ _ h => h) (Or.inl ⟨by rfl, ?_⟩) ?_ ?_
          rotate_left
          · intro w'
            go_simp
            with_reducible rfl
          rotate_left
          · simp only [Act.put, List.setIfInBounds_toArray, List.set_cons_zero, List.set_cons_succ, i64_w, i32_w]
            rfl
          refine done_ (done_of rfl (by kernel_rfl)) ?_
          go_wp2
          go_roundw
          case rel => exact ⟨a + k, by omega, by omega, by rfl, ⟨laid_row HL1.out HLN.out HLT.out HYS.out (by omega)⟩, ⟨below_setRow (by exact below_drew hB.out) hgw _⟩⟩
          case measure => simp [intOf]; omega
      · obtain rfl : a = N := by omega
        go_wp2_with fail
        go_ret
        exact ⟨G, rfl, hLD.out, hgw, hB.out⟩
theorem zero_cells (m : Nat) : (Builtin.zeroCells (Value.int .u8 0).cells m).toList = (List.replicate m (0 : Int)).map (Value.int .u8) := by
  apply List.ext_getElem?
  intro j
  simp only [Builtin.zeroCells, Value.cells, Array.toList_map, List.getElem?_map, List.getElem?_replicate]
  by_cases h : j < m
  · rw [if_pos h]
    simp [h, Nat.mod_one]
  · rw [if_neg h]
    simp [h]
/-- append(v, make([]byte, m)...) where v has no room. -/
theorem run_zeros_tight (W : World) (g n m : Nat) (xs : List Int) (hx : xs.length = n) (h : Laid0 W g n xs) (hnm : n + m ≤ 10000000) :
    ∃ A c W', (Builtin.append_ #[25, 3] 25 #[.slice (some ⟨g, 0, none⟩) n n, .int .i64 m]).run Tryd.prog W = .ok (.slice A (n + m) c) W' ∧ n + m ≤ c ∧ Below W.heap.size W W' ∧
      ∀ w : World, w.heap.size ≤ g → Below w.heap.size w W → Kd.V (Kd.int .u8) 5 W' w.heap.size (fun k_ => w.heap.size ≤ k_) (.slice A (n + m) c) (xs ++ List.replicate m 0) := by
  obtain ⟨i, hi, hz, hsz, hby⟩ := info_parts infoB'
  have hw0 : IntKind.i64.wrap 0 = 0 := by rw [IntKind.wrap_i64]; rfl
  by_cases hm : m = 0
  · subst hm
    refine ⟨some ⟨g, 0, none⟩, n, W, ?_, Nat.le_refl _, Below.refl _ _, fun w hg hb => ?_⟩
    · have hst := run_storeCells_cells (P := Tryd.prog) g (n * i.size) [] 0 W (by simp) (by simp) (by simp)
      simp only [Nat.add_zero] at hst
      simp [Builtin.append_, run_underlying Tryd.underlying25, run_underlying Tryd.underlying3, sizeOf, typeInfo, hi, asInt, asIntOf, hw0, add_plain, hst]
      rfl
    · have := laid_V (w := w) h hx hg (by omega)
      simpa using this
  · have hw : IntKind.i64.wrap (m : Int) = m := by rw [IntKind.wrap_i64]; omega
    have hneg : ¬ ((m : Int) < 0) := by omega
    have hbig : ¬ (281474976710656 < (m : Int) * (i.bytes : Int)) := by rw [hby]; omega
    have hn : ¬ (n + m ≤ n) := by omega
    have h63' : ¬ (9223372036854775807 < ((n : Int) + (m : Int))) := by omega
    have hfit := growslice_fits (old := n) (need := n + m) (bytes := i.bytes) (by omega) (by rw [hby]; omega)
    have h48' : ¬ (281474976710656 < Builtin.nextslicecap (n + m) n * i.bytes) := by omega
    have hmz : ¬ (m * i.size = 0) := by rw [hsz]; omega
    have hcell : ∀ (W' : World), W'.heap[g]? = W.heap[g]? → ∀ j u, (xs.map (Value.int .u8))[j]? = some u → W'.cell? ((⟨g, 0, none⟩ : Addr).add j) = some u := by
      obtain ⟨L, h1, h2, h3, h4⟩ := h
      intro W' hW' j u hj
      rw [List.getElem?_map] at hj
      obtain ⟨x, hx', rfl⟩ := Option.map_eq_some_iff.1 hj
      have hjl := (List.getElem?_eq_some_iff.1 hx').1
      have := piece_cell (s := 0) (n := xs.length) (hW'.trans h1) (by simpa using h3) j x hjl hx'
      rw [add_plain]
      exact this
    have hfo : (Builtin.firstCells i.size n (.slice (some ⟨g, 0, none⟩) n n)).run Tryd.prog W.drew = .ok (xs.map (Value.int .u8)).toArray W.drew :=
      run_firstCells_some (P := Tryd.prog) W.drew i.size n _ n n (xs.map (Value.int .u8)) (by rw [hsz]; simp [hx]) (hcell _ rfl)
    obtain ⟨news, hnews⟩ : ∃ news, news = (Builtin.zeroCells (Value.int .u8 0).cells m).toList := ⟨_, rfl⟩
    have hna : Builtin.zeroCells (Value.int .u8 0).cells m = news.toArray := by rw [hnews]
    have hge := grownCap_ge W (n + m) n 5
    have htk : ((xs.map (Value.int .u8)).toArray ++ news.toArray ++ Builtin.zeroCells (Value.int .u8 0).cells (grownCap W (n + m) n 5 - (n + m))).toList.take (n + m) = (xs ++ List.replicate m 0).map (Value.int .u8) := by
      rw [hnews, Array.toList_append, Array.toList_append]
      simp only [zero_cells]
      rw [← List.map_append]
      exact List.take_left' (by simp [hx])
    have hrun : (Builtin.append_ #[25, 3] 25 #[.slice (some ⟨g, 0, none⟩) n n, .int .i64 m]).run Tryd.prog W = .ok (.slice (some ⟨W.heap.size, 0, none⟩) (n + m) (grownCap W (n + m) n 5)) (W.drew.alloc (.cells ((xs.map (Value.int .u8)).toArray ++ news.toArray ++ Builtin.zeroCells (Value.int .u8 0).cells (grownCap W (n + m) n 5 - (n + m))) 5)) := by
      simp [Builtin.append_, run_underlying Tryd.underlying25, run_underlying Tryd.underlying3, sizeOf, typeInfo, zeroValue, hi, hz, asInt, asIntOf, hw, hneg, hbig, hn, h63', h48', Question.forced, hfo, newRow, grownCap, hmz, hna]
      congr 2
      apply Array.ext'
      simp [List.append_assoc]
    generalize (xs.map (Value.int .u8)).toArray ++ news.toArray ++ Builtin.zeroCells (Value.int .u8 0).cells (grownCap W (n + m) n 5 - (n + m)) = cells at *
    generalize grownCap W (n + m) n 5 = cap at *
    refine ⟨_, _, _, hrun, hge, (below_drew (Below.refl _ _)).alloc (Nat.le_refl _) _, fun w hg hb => ?_⟩
    · have hl : (xs ++ List.replicate m 0).length = n + m := by simp [hx]
      suffices hv : Kd.V (Kd.int .u8) 5 (W.drew.alloc (.cells cells 5)) w.heap.size (fun k_ => w.heap.size ≤ k_) (.slice (some ⟨W.heap.size, 0, none⟩) (xs ++ List.replicate m 0).length cap) (xs ++ List.replicate m 0) by
        rwa [hl] at hv
      refine Kd.V_mk (by rw [hl]; exact hge) (fun W' hW => ?_)
      have hheap := (hW W.heap.size hb.size (by simp)).trans (heap_alloc_new W.drew _)
      refine ⟨rfl, by rw [hl]; omega, fun _ => ⟨_, rfl, fun j x hx' => ⟨[.int .u8 x], rfl, rfl, fun i' u hu => ?_⟩⟩⟩
      obtain rfl : i' = 0 := by
        cases i' with
        | zero => rfl
        | succ n => simp at hu
      obtain rfl : Value.int .u8 x = u := by simpa using hu
      have hj := (List.getElem?_eq_some_iff.1 hx').1
      have := piece_cell (s := 0) (n := n + m) hheap htk j x (by omega) hx'
      rw [add_plain]
      simpa [show (Kd.int .u8).sz = 1 from rfl] using this
theorem append_event {P : Program} {ops : Array Oper} {o : Oper} {rest : List Oper} {a : Act} {Q : Exit → Act → World → Prop} {W w1 : World} {v v1 x' : Value} (hgd : o.guard = none) (s x : Operand) (t ti : TypeId)
    (ho : o.op = .call { callee := .builtin .append, args := #[s, x], argTypes := #[t, ti] }) (hs : a.eval s = v) (hx : a.eval x = x') (hrun : (Builtin.append_ #[t, ti] o.type #[v, x']).run P W = .ok v1 w1)
    (h : wpList P ops Q rest (a.put o.dst v1) w1) : wpList P ops Q (o :: rest) a W := by
  refine wpList_plain hgd fun K hK => ?_
  unfold Oper.wp execOp
  simp only [ho, resolve, invoke, builtin, Sem.run_bind, Sem.run_pure, Result.andThen_ok, List.map_toArray, List.map_cons, List.map_nil, hs, hx, hrun]
  exact hK _ _ h
theorem cell_of_block {w : World} {g : Nat} {cs : Array Value} {t : TypeId} (h : w.heap[g]? = some (.cells cs t (0, 0))) (j : Nat) (v : Value) (hj : cs[j]? = some v) : w.cell? ⟨g, j, none⟩ = some v := by
  simp [World.cell?, h, hj]
theorem repeat_walk (ad : Addr) (c N : Nat) (w : World) (hr : w.cell? ad = some (.int .u8 255)) (h2 : N ≤ 1000000) : Calls Tryd.prog 30 #[.slice (some ad) 1 c, .int .i64 N] w (Rep w N) := by
  cases N with
  | zero => exact repeat_none (some ad) c w
  | succ n => exact repeat_many ad c (n + 1) w hr (by omega) h2
def image_Factory.f (a b c : Int) : Option (List Int × Int) :=
  (geo_Right.f a b c).bind fun t => if t = true then (image_sizes.f a b c).bind fun s => if 0 ≤ s.1 ∧ 0 ≤ s.2.1 ∧ 0 ≤ s.2.2 ∧ s.1 + s.2.1 ≤ 1000000 ∧ s.2.2 ≤ 1000000 then some (ff (s.1.toNat + s.2.1.toNat) ++ List.replicate s.2.2.toNat 0, 0) else none else some ([], 9)
/-- What is made. -/
def Fac (w : World) (r1 : List Int) (r2 : Int) (e : Ending) (w' : World) : Prop :=
  ∃ v : Value, e = .returned (.tuple #[v, .int .i64 r2]) ∧ Kd.V (Kd.int .u8) 5 w' w.heap.size (fun k_ => w.heap.size ≤ k_) v r1 ∧ Below w.heap.size w w'
set_option maxHeartbeats 1600000 in
theorem factory_bad (a b c : Int) (w : World) (h : geo_Right.f a b c = some false) : Calls Tryd.prog 11 #[Geo3 a b c] w (Fac w [] 9) := by
  have HR := Lib.hid (fun W => geo_Right.calls a b c false W h)
  have HB0 : Aside0 (Below (w.heap.size + 1) (box3 w a b c) (box3 w a b c)) := ⟨Below.refl _ _⟩
  have HP : Aside0 (∀ W, Below w.heap.size w W → Fac w [] 9 (.returned (.tuple #[.slice none 0 0, .int .i64 9])) W) := ⟨fun W hb => ⟨_, rfl, Kd.V_nil _ _ _ _ _, hb⟩⟩
  clear h
  go_enter Tryd.func11, Tryd.ntmps11
  go_wp2_with (go_at_call 28; (with_reducible refine (HR.out _).mono ?_); rintro e w1 ⟨rfl, hb⟩; have HB := Aside0.mk (box_step HB0.out hb); clear hb)
  go_ret2
  exact HP.out _ (box_cells HB.out).2.2.2
set_option maxHeartbeats 1600000 in
theorem factory_good (a b c : Int) (x y z N : Nat) (w : World) (hG : Laid w) (h : geo_Right.f a b c = some true) (hs : image_sizes.f a b c = some ((x : Int), (y : Int), (z : Int))) (hN : x + y = N) (hN2 : N ≤ 1000000) (hz : z ≤ 1000000) :
    Calls Tryd.prog 11 #[Geo3 a b c] w (Fac w (ff N ++ List.replicate z 0) 0) := by
  have HR := Lib.hid (fun W => geo_Right.calls a b c true W h)
  have HS := Lib.hid (fun W hG => image_sizes.calls a b c _ _ _ W hG hs)
  have HB0 : Aside0 (Below (w.heap.size + 1) (box3 w a b c) (box3 w a b c)) := ⟨Below.refl _ _⟩
  have HG := Aside0.mk hG
  have hxy : (x : Int) + (y : Int) = (N : Int) := by omega
  have HRep := Lib.hid (fun (W : World) => repeat_walk ⟨W.heap.size, 0, none⟩ 1 N (W.alloc (.cells #[.int .u8 255] 5)) (cell_of_block (heap_alloc_new W _) 0 _ rfl) hN2)
  have HP : Aside0 (∀ v W, Kd.V (Kd.int .u8) 5 W w.heap.size (fun k_ => w.heap.size ≤ k_) v (ff N ++ List.replicate z 0) → Below w.heap.size w W → Fac w (ff N ++ List.replicate z 0) 0 (.returned (.tuple #[v, .int .i64 0])) W) := ⟨fun v W hv hb => ⟨_, rfl, hv, hb⟩⟩
  have HZ := Lib.hid (fun W g (h : Laid0 W g N (ff N)) => run_zeros_tight W g N z (ff N) (by simp) h (by omega))
  clear h hG hs hN
  go_enter Tryd.func11, Tryd.ntmps11
  go_wp2_with (first
    | (go_at_call 28; (with_reducible refine (HR.out _).mono ?_); rintro e w1 ⟨rfl, hb⟩; have HB := Aside0.mk (box_step HB0.out hb); obtain ⟨c0, c1, c2, hb1⟩ := box_cells HB.out; have HBB := Aside0.mk hb1; clear hb hb1)
    | (go_at_call 29; (with_reducible refine (HS.out _ (Laid.below HG.out HBB.out)).mono ?_); rintro e w2 ⟨rfl, hb⟩; have HB3 := Aside0.mk (box_cells (box_step HB.out hb)).2.2.2; clear hb)
    | (go_at_call 30; (with_reducible refine (HRep.out _).mono ?_); intro e w3 hrep; obtain ⟨g, rfl, hl, hg, hb⟩ := hrep; have HB4 := Aside0.mk ((below_alloc HB3.out _).trans (hb.mono (below_alloc HB3.out _).size)); have HGG := Aside0.mk (Nat.le_trans (below_alloc HB3.out _).size hg); obtain ⟨A5, c5, w5, hrun, hle, hb5, hV⟩ := HZ.out w3 g hl; have HV := Aside0.mk (hV w HGG.out HB4.out); have HB5 := Aside0.mk (HB4.out.trans (hb5.mono HB4.out.size)); have HRUN := Aside0.mk hrun; clear hb hb5 hV hl hrun hg)
    | ((with_reducible refine gate_builtin (b := .append) rfl ?_); refine append_event rfl (.tmp 20) (.tmp 21) _ _ rfl rfl rfl HRUN.out ?_))
  go_ret2
  exact HP.out _ _ HV.out HB5.out
theorem image_Factory.calls (a b c : Int) (r1 : List Int) (r2 : Int) (w : World) (hG : Laid w) (h : image_Factory.f a b c = some (r1, r2)) :
    Calls Tryd.prog 11 #[.agg #[.int .i64 a, .int .i64 b, .int .i64 c]] w fun e w' => ∃ v : Value, e = .returned (.tuple #[v, .int .i64 r2]) ∧ Kd.V (Kd.int .u8) 5 w' w.heap.size (fun k_ => w.heap.size ≤ k_) v r1 ∧ Below w.heap.size w w' := by
  unfold image_Factory.f at h
  obtain ⟨t, ht, h⟩ := Option.bind_eq_some_iff.1 h
  split at h
  · rename_i htt
    subst htt
    obtain ⟨⟨s1, s2, s3⟩, hs, h⟩ := Option.bind_eq_some_iff.1 h
    split at h
    · rename_i hb
      simp only at hb h
      obtain ⟨h1, h2, h3, h4, h5⟩ := hb
      obtain ⟨x, rfl⟩ := Int.eq_ofNat_of_zero_le h1
      obtain ⟨y, rfl⟩ := Int.eq_ofNat_of_zero_le h2
      obtain ⟨z, rfl⟩ := Int.eq_ofNat_of_zero_le h3
      simp only [Option.some.injEq, Prod.mk.injEq, Int.toNat_natCast] at h
      obtain ⟨rfl, rfl⟩ := h
      exact factory_good a b c x y z (x + y) w hG ht hs rfl (by omega) (by omega)
    · cases h
  · rename_i htt
    have : t = false := by simpa using htt
    subst this
    simp only [Option.some.injEq, Prod.mk.injEq] at h
    obtain ⟨rfl, rfl⟩ := h
    exact factory_bad a b c w ht
end Go.Proofs.YtmlldfkmmmncgaaDoor.Given
