/- The cartridge that bytes are: the walk of Parse. -/
import Derived.Test.YtoiiphlhdnlniaaAx2
import Derived.Test.YtoiiphlhdnlniaaSeal
import Derived.Test.YtoiiphlhdnlniaaClone
import Derived.Laws.CopyOwn
import Derived.Deep.RegionLaw
import Derived.Deep.QuietTactic
import Derived.BigQuiet
import Derived.Deep.RegionHeld3
import Derived.Deep.MidRow
set_option linter.unusedVariables false
set_option linter.unusedSimpArgs false
namespace Go.Proofs.Ytoiiphlhdnlniaa.Given
open Go.RowKit Go.Proofs.Ytoiiphlhdnlniaa.All Go.Proofs.Ytoiiphlhdnlniaa.Sums Go.Proofs.Ytoiiphlhdnlniaa.Math Go.Proofs.YtoiiphlhdnlniaaW.PrintWords Go.Proofs.YtoiiphlhdnlniaaW.PrintLast Go.Proofs.YtoiiphlhdnlniaaW.PrintMore

theorem size5 : (Try.prog.info? 5).map (·.size) = some 1 := by kernel_rfl
theorem size5i : ∃ i, Try.prog.info? 5 = some i ∧ i.size = 1 := by
  obtain ⟨i, hi, _, h1, _⟩ := info_parts infoB
  exact ⟨i, hi, h1⟩
theorem first16 (l : List Int) (h : 16 ≤ l.length) : ∃ h0 h1 h2 h3 h4 h5 h6 h7 h8 h9 h10 h11 g0 g1 g2 g3 rom, l = h0 :: h1 :: h2 :: h3 :: h4 :: h5 :: h6 :: h7 :: h8 :: h9 :: h10 :: h11 :: g0 :: g1 :: g2 :: g3 :: rom := by
  match l, h with
  | h0 :: h1 :: h2 :: h3 :: h4 :: h5 :: h6 :: h7 :: h8 :: h9 :: h10 :: h11 :: g0 :: g1 :: g2 :: g3 :: rom, _ => exact ⟨_, _, _, _, _, _, _, _, _, _, _, _, _, _, _, _, _, rfl⟩
theorem cells_of {w : World} {ad : Addr} {n : Nat} {l : List Int} (h : ReadsOf (Value.int .u8) 0 w (some ad) n l) : ∀ j v, (l.map (Value.int .u8))[j]? = some v → w.cell? (ad.add j) = some v := by
  intro j v hj
  rw [List.getElem?_map] at hj
  obtain ⟨x, hx, rfl⟩ := Option.map_eq_some_iff.1 hj
  have hl := (List.getElem?_eq_some_iff.1 hx).1
  have hn := h.1
  obtain ⟨ad', e, hc⟩ := h.2.2 (by omega)
  cases e
  rw [hc j (by omega), List.getD_eq_getElem?_getD, hx]
  rfl
theorem step_copy_own {P : Program} {ops : Array Oper} {o : Oper} {a : Act} {w : World} {K : Act → World → Prop} {Q : Exit → Act → World → Prop} {E : Prop} (hgd : o.guard = none) (d s : Operand) (dT sT : TypeId)
    (ho : o.op = .call { callee := .builtin .copy, args := #[d, s], argTypes := #[dT, sT] }) (elem : TypeId) (hu : P.underlying dT = some (.slice elem)) (hsz : (P.info? elem).map (·.size) = some 1)
    (g off dLen dCap : Nat) (ad : Addr) (sLen sCap : Nat) (hd : a.eval d = .slice (some ⟨g, off, none⟩) dLen dCap) (hs : a.eval s = .slice (some ad) sLen sCap)
    (cur : Array Value) (t : TypeId) (hg : w.heap[g]? = some (.cells cur t (0, 0))) (cs : List Value) (hn : cs.length = Nat.min sLen dLen)
    (hsrc : ∀ j v, cs[j]? = some v → w.cell? (ad.add j) = some v) (hfit : off + cs.length ≤ cur.size) (h1 : ∀ v ∈ cs, v.oneCell' = true)
    (h : K (a.put o.dst (goInt cs.length)) (w.setRow g (cur.toList.take off ++ (cs ++ cur.toList.drop (off + cs.length))).toArray)) :
    if Region.wanted o (yielded ops a.tmps) = true then Oper.wp P o a w K Q else E := by
  have hw : Region.wanted o (yielded ops a.tmps) = true := by simp [Region.wanted, hgd]
  rw [if_pos hw]
  have hrun := run_copy_row (P := P) w dT sT o.type elem g off dLen dCap ad sLen sCap cur t cs hu hsz hg hn hsrc hfit h1
  unfold Oper.wp
  simp [execOp, ho, resolve, invoke, builtin, hd, hs, hrun, Result.andThen]
  exact h
theorem alloc3 (w : World) (o1 o2 o3 : Obj) : (((w.alloc o1).alloc o2).alloc o3).heap[w.heap.size]? = some o1 ∧ (((w.alloc o1).alloc o2).alloc o3).heap[w.heap.size + 1]? = some o2 ∧ (((w.alloc o1).alloc o2).alloc o3).heap[w.heap.size + 2]? = some o3 ∧ (((w.alloc o1).alloc o2).alloc o3).heap.size = w.heap.size + 3 := by
  have e1 := heap_alloc_new w o1
  have e2 := heap_alloc_new (w.alloc o1) o2
  have e3 := heap_alloc_new ((w.alloc o1).alloc o2) o3
  simp only [World.size_alloc] at e2 e3
  refine ⟨?_, ?_, e3, by simp⟩
  · rw [Below.heap_alloc _ _ _ (by simp; omega), Below.heap_alloc _ _ _ (by simp)]; exact e1
  · rw [Below.heap_alloc _ _ _ (by simp)]; exact e2
abbrev Z (n : Nat) : Array Value := (List.replicate n (Value.int .u8 0)).toArray
abbrev zCart : Array Value := #[.int .i64 0, .int .i64 0, .int .i64 0, .int .i64 0, .int .i64 0, .slice none 0 0]
/-- The three blocks of the call. -/
structure Three (w W : World) (hs gs : List Int) : Prop where
  bel : Below w.heap.size w W
  size : W.heap.size = w.heap.size + 3
  res : W.heap[w.heap.size]? = some (.cells zCart 27 (0, 0))
  head : W.heap[w.heap.size + 1]? = some (.cells (hs.map (Value.int .u8)).toArray 48 (0, 0))
  sum : W.heap[w.heap.size + 2]? = some (.cells (gs.map (Value.int .u8)).toArray 49 (0, 0))
theorem Three.drew {w W : World} {hs gs : List Int} (h : Three w W hs gs) : Three w W.drew hs gs := ⟨h.bel.drew, h.size, h.res, h.head, h.sum⟩
theorem three_new (w : World) : Three w (((w.alloc (.cells zCart 27)).alloc (.cells (Z 12) 48)).alloc (.cells (Z 4) 49)) (List.replicate 12 0) (List.replicate 4 0) := by
  obtain ⟨e1, e2, e3, e4⟩ := alloc3 w (.cells zCart 27) (.cells (Z 12) 48) (.cells (Z 4) 49)
  exact ⟨((((Below.refl _ _).alloc (Nat.le_refl _) _).alloc (by simp) _).alloc (by simp; omega) _), e4, e1, e2, e3⟩
theorem Three.head_set {w W : World} {hs gs hs' : List Int} (h : Three w W hs gs) : Three w (W.setRow (w.heap.size + 1) (hs'.map (Value.int .u8)).toArray) hs' gs :=
  ⟨below_setRow h.bel (by omega) _, by rw [setRow_size]; exact h.size, (setRow_other _ _ _ _ (by omega)).trans h.res, setRow_heap _ _ _ _ _ _ h.head, (setRow_other _ _ _ _ (by omega)).trans h.sum⟩
theorem Three.sum_set {w W : World} {hs gs gs' : List Int} (h : Three w W hs gs) : Three w (W.setRow (w.heap.size + 2) (gs'.map (Value.int .u8)).toArray) hs gs' :=
  ⟨below_setRow h.bel (by omega) _, by rw [setRow_size]; exact h.size, (setRow_other _ _ _ _ (by omega)).trans h.res, (setRow_other _ _ _ _ (by omega)).trans h.head, setRow_heap _ _ _ _ _ _ h.sum⟩
/-- What Parse answers. -/
def PO (w : World) (p : Int × Int × Int × Int × Int × List Int × Int) (e : Ending) (w' : World) : Prop :=
  ∃ v : Value, e = .returned (.tuple #[.agg #[.int .i64 p.1, .int .i64 p.2.1, .int .i64 p.2.2.1, .int .i64 p.2.2.2.1, .int .i64 p.2.2.2.2.1, v], .int .i64 p.2.2.2.2.2.2]) ∧ (Kd.int .u8).R 5 w' w.heap.size (fun _ => True) v p.2.2.2.2.2.1 ∧ Below w.heap.size w w'
def bankR (a b c d f : Int) : Bool := (bank_Right.f a b c d f []).getD false
def bankL (a b c d f : Int) : Int := (bank_Long.f a b c d f []).getD 0
theorem bankR_f (a b c d f : Int) (l : List Int) : bank_Right.f a b c d f l = some (bankR a b c d f) := by
  have h : ∃ r, bank_Right.f a b c d f [] = some r ∧ bank_Right.f a b c d f l = some r := by
    unfold bank_Right.f geo_Right.f geo_within.f
    repeat' split
    all_goals first | exact ⟨_, rfl, rfl⟩ | (simp only [Option.bind_some]; (repeat' split); all_goals exact ⟨_, rfl, rfl⟩)
  obtain ⟨r, h1, h2⟩ := h
  unfold bankR
  rw [h1, h2]
  rfl
theorem bankL_f (a b c d f : Int) (l : List Int) (ha : 0 ≤ a) : bank_Long.f a b c d f l = some (bankL a b c d f) := by
  have h : ∃ r, bank_Long.f a b c d f [] = some r ∧ bank_Long.f a b c d f l = some r := by
    unfold bank_Long.f
    rw [bankR_f, bankR_f]
    simp only [Option.bind_some]
    rw [if_pos ha]
    split
    all_goals exact ⟨_, rfl, rfl⟩
  obtain ⟨r, h1, h2⟩ := h
  unfold bankL
  rw [h1, h2]
  rfl
theorem right_walk (a b c d f : Int) (w : World) : Calls Try.prog 20 #[.agg #[.int .i64 a, .int .i64 b, .int .i64 c, .int .i64 d, .int .i64 f, .slice none 0 0]] w fun e w' => e = .returned (.bool (bankR a b c d f)) ∧ Below w.heap.size w w' :=
  bank_Right.calls a b c d f none 0 [] _ w (Kd.C_nil _ _) (Nat.le_refl _) (bankR_f a b c d f [])
theorem long_walk (a b c d f : Int) (ha : 0 ≤ a) (w : World) : Calls Try.prog 21 #[.agg #[.int .i64 a, .int .i64 b, .int .i64 c, .int .i64 d, .int .i64 f, .slice none 0 0]] w fun e w' => e = .returned (.int .i64 (bankL a b c d f)) ∧ Below w.heap.size w w' :=
  bank_Long.calls a b c d f none 0 [] _ w (Kd.C_nil _ _) (Nat.le_refl _) (bankL_f a b c d f [] ha)
/-- What holds of the call's blocks, once the cartridge is laid. -/
structure Four (w W : World) (hs gs : List Int) (cs : Array Value) : Prop where
  bel : Below w.heap.size w W
  size : w.heap.size + 3 < W.heap.size
  res : W.heap[w.heap.size]? = some (.cells zCart 27 (0, 0))
  head : W.heap[w.heap.size + 1]? = some (.cells (hs.map (Value.int .u8)).toArray 48 (0, 0))
  sum : W.heap[w.heap.size + 2]? = some (.cells (gs.map (Value.int .u8)).toArray 49 (0, 0))
  cart : W.heap[w.heap.size + 3]? = some (.cells cs 27 (0, 0))
theorem Three.four {w W : World} {hs gs : List Int} (h : Three w W hs gs) (cs : Array Value) : Four w (W.alloc (.cells cs 27)) hs gs cs :=
  ⟨h.bel.alloc (by have := h.size; omega) _, by rw [World.size_alloc]; have := h.size; omega, (Below.heap_alloc _ _ _ (by have := h.size; omega)).trans h.res, (Below.heap_alloc _ _ _ (by have := h.size; omega)).trans h.head,
    (Below.heap_alloc _ _ _ (by have := h.size; omega)).trans h.sum, by have := heap_alloc_new W (.cells cs 27); rw [h.size] at this; exact this⟩
theorem Four.below {w W W' : World} {hs gs : List Int} {cs : Array Value} (h : Four w W hs gs cs) (hb : Below W.heap.size W W') : Four w W' hs gs cs :=
  ⟨h.bel.trans (hb.mono (by have := h.size; omega)), Nat.lt_of_lt_of_le h.size hb.size, (hb.block _ (by have := h.size; omega)).trans h.res, (hb.block _ (by have := h.size; omega)).trans h.head, (hb.block _ (by have := h.size; omega)).trans h.sum, (hb.block _ h.size).trans h.cart⟩
theorem Four.setCart {w W : World} {hs gs : List Int} {cs : Array Value} (h : Four w W hs gs cs) (j : Nat) (u : Value) : Four w (W.setCell ⟨w.heap.size + 3, j, none⟩ u) hs gs (cs.setIfInBounds j u) :=
  ⟨h.bel.setCell (p := ⟨w.heap.size + 3, j, none⟩) (by simp) _, by have := h.size; simpa [World.setCell] using this, (Below.heap_setCell _ _ _ _ (by simp)).trans h.res, (Below.heap_setCell _ _ _ _ (by simp)).trans h.head, (Below.heap_setCell _ _ _ _ (by simp)).trans h.sum, blk_set h.cart j u⟩
def sealIs (s g0 g1 g2 g3 : Int) : Bool := decide (s % 256 = g0 ∧ s / 256 % 256 = g1 ∧ s / 65536 % 256 = g2 ∧ s / 16777216 % 256 = g3)
/-- A result is laid. -/
theorem four_store {w W : World} {hs gs : List Int} {cs : Array Value} (h : Four w W hs gs cs) (a b c d f : Int) (v : Value) (W' : World)
    (hW : (((((W.setCell ⟨w.heap.size, 0, none⟩ (.int .i64 a)).setCell ⟨w.heap.size, 1, none⟩ (.int .i64 b)).setCell ⟨w.heap.size, 2, none⟩ (.int .i64 c)).setCell ⟨w.heap.size, 3, none⟩ (.int .i64 d)).setCell ⟨w.heap.size, 4, none⟩ (.int .i64 f)).setCell ⟨w.heap.size, 5, none⟩ v = W') :
    W'.heap[w.heap.size]? = some (.cells #[.int .i64 a, .int .i64 b, .int .i64 c, .int .i64 d, .int .i64 f, v] 27 (0, 0)) ∧ Below w.heap.size w W' ∧ W'.heap.size = W.heap.size := by
  subst hW
  have k := blk_set (blk_set (blk_set (blk_set (blk_set (blk_set h.res 0 (.int .i64 a)) 1 (.int .i64 b)) 2 (.int .i64 c)) 3 (.int .i64 d)) 4 (.int .i64 f)) 5 v
  refine ⟨k, ?_, by simp [World.setCell]⟩
  exact (((((h.bel.setCell (p := ⟨w.heap.size, 0, none⟩) (Nat.le_refl _) _).setCell (p := ⟨w.heap.size, 1, none⟩) (Nat.le_refl _) _).setCell (p := ⟨w.heap.size, 2, none⟩) (Nat.le_refl _) _).setCell (p := ⟨w.heap.size, 3, none⟩) (Nat.le_refl _) _).setCell (p := ⟨w.heap.size, 4, none⟩) (Nat.le_refl _) _).setCell (p := ⟨w.heap.size, 5, none⟩) (Nat.le_refl _) _
def pres (h0 h1 h2 h3 h4 h5 h6 h7 h8 h9 h10 h11 g0 g1 g2 g3 : Int) (rom : List Int) : Int × Int × Int × Int × Int × List Int × Int :=
  if (!(strOfNums [h0, h1, h2, h3]).toList == [67, 65, 82, 84]) = true then (0, 0, 0, 0, 0, [], 6)
  else if (h4 != 1) = true then (0, 0, 0, 0, 0, [], 7)
  else if bankR h5 h6 h7 h8 h9 = false then (0, 0, 0, 0, 0, [], 13)
  else if (h10 != 0) = true then (0, 0, 0, 0, 0, [], 13)
  else if (h11 != 0) = true then (0, 0, 0, 0, 0, [], 13)
  else if (rom.length : Int) < bankL h5 h6 h7 h8 h9 then (0, 0, 0, 0, 0, [], 5)
  else if bankL h5 h6 h7 h8 h9 < (rom.length : Int) then (0, 0, 0, 0, 0, [], 14)
  else if sealIs (sealOf ([h0, h1, h2, h3, h4, h5, h6, h7, h8, h9, h10, h11] ++ rom)) g0 g1 g2 g3 = true then (h5, h6, h7, h8, h9, rom, 0)
  else (0, 0, 0, 0, 0, [], 8)
theorem range_blk {W : World} {b e : Nat} {cs : List Value} {fr : Nat × Nat} (h : W.heap[b]? = some (.cells cs.toArray e fr)) : W.rangeAt b 0 cs := fun j v hj => by
  rw [Nat.zero_add, cell_of_row W b j _ _ _ h, List.getElem?_toArray, hj]
theorem four_cells {w W : World} {h0 h1 h2 h3 h4 h5 h6 h7 h8 h9 h10 h11 g0 g1 g2 g3 : Int} (h : Four w W [h0, h1, h2, h3, h4, h5, h6, h7, h8, h9, h10, h11] [g0, g1, g2, g3] #[.int .i64 h5, .int .i64 h6, .int .i64 h7, .int .i64 h8, .int .i64 h9, .slice none 0 0]) : W.rangeAt (w.heap.size + 1) 0 [.int .u8 h0, .int .u8 h1, .int .u8 h2, .int .u8 h3, .int .u8 h4, .int .u8 h5, .int .u8 h6, .int .u8 h7, .int .u8 h8, .int .u8 h9, .int .u8 h10, .int .u8 h11] ∧ W.cell? ⟨w.heap.size + 1 + 1, 0, none⟩ = some (.int .u8 g0) ∧ W.cell? ⟨w.heap.size + 1 + 1, 1, none⟩ = some (.int .u8 g1) ∧ W.cell? ⟨w.heap.size + 1 + 1, 2, none⟩ = some (.int .u8 g2) ∧ W.cell? ⟨w.heap.size + 1 + 1, 3, none⟩ = some (.int .u8 g3) ∧ Four w W [h0, h1, h2, h3, h4, h5, h6, h7, h8, h9, h10, h11] [g0, g1, g2, g3] #[.int .i64 h5, .int .i64 h6, .int .i64 h7, .int .i64 h8, .int .i64 h9, .slice none 0 0] :=
  ⟨range_blk h.head, (cell_of_row W _ 0 _ _ _ h.sum).trans rfl, (cell_of_row W _ 1 _ _ _ h.sum).trans rfl, (cell_of_row W _ 2 _ _ _ h.sum).trans rfl, (cell_of_row W _ 3 _ _ _ h.sum).trans rfl, h⟩
theorem Four.drew {w W : World} {hs gs : List Int} {cs : Array Value} (h : Four w W hs gs cs) : Four w W.drew hs gs cs := h.below (Below.refl _ _).drew
set_option maxHeartbeats 4000000 in
set_option maxRecDepth 100000 in
theorem parse_walk (ad : Addr) (c0 : Nat) (h0 h1 h2 h3 h4 h5 h6 h7 h8 h9 h10 h11 g0 g1 g2 g3 : Int) (rom : List Int) (w : World)
    (hr : ReadsOf (Value.int .u8) 0 w (some ad) (h0 :: h1 :: h2 :: h3 :: h4 :: h5 :: h6 :: h7 :: h8 :: h9 :: h10 :: h11 :: g0 :: g1 :: g2 :: g3 :: rom).length (h0 :: h1 :: h2 :: h3 :: h4 :: h5 :: h6 :: h7 :: h8 :: h9 :: h10 :: h11 :: g0 :: g1 :: g2 :: g3 :: rom))
    (hc : (h0 :: h1 :: h2 :: h3 :: h4 :: h5 :: h6 :: h7 :: h8 :: h9 :: h10 :: h11 :: g0 :: g1 :: g2 :: g3 :: rom).length ≤ c0) (hl : rom.length ≤ 100000)
    (hb : Bytes (h0 :: h1 :: h2 :: h3 :: h4 :: h5 :: h6 :: h7 :: h8 :: h9 :: h10 :: h11 :: g0 :: g1 :: g2 :: g3 :: rom)) :
    Calls Try.prog 9 #[.slice (some ad) (rom.length + 16) c0] w (PO w (pres h0 h1 h2 h3 h4 h5 h6 h7 h8 h9 h10 h11 g0 g1 g2 g3 rom)) := by
  obtain ⟨i5, hi5, hz5⟩ := size5i
  obtain ⟨A12, hcut12, hr12, hc12⟩ := print_drop_of (P := Try.prog) (Value.int .u8) (0 : Int) 22 5 .i64 Try.underlying22 hi5 hz5 (some ad) c0 _ 12 (by omega) (by simp; omega) hc
  obtain ⟨A16, hcut16, hr16, hc16⟩ := print_drop_of (P := Try.prog) (Value.int .u8) (0 : Int) 22 5 .i64 Try.underlying22 hi5 hz5 (some ad) c0 _ 16 (by omega) (by simp; omega) hc
  have HR := Aside0.mk hr
  have HR12 := Aside0.mk (hr12 w hr)
  have HR16 := Aside0.mk (hr16 w hr)
  have HC16 := Aside0.mk hc16
  have HBY := Lib.hid hb
  have HI := Lib.hid hi5
  clear hr hr12 hr16 hc12 hc16 hb hi5
  simp only [List.length_cons, Int.reduceToNat, List.drop_succ_cons, List.drop_zero, Nat.reduceAdd, Nat.add_assoc] at hcut12 hcut16
  have hlen : ¬ ((rom.length : Int) + 16 < 16) := by omega
  go_enter Try.func9, Try.ntmps9
  have HT := Aside0.mk (three_new w)
  have hsrc0 : ∀ j v, ([h0, h1, h2, h3, h4, h5, h6, h7, h8, h9, h10, h11].map (Value.int .u8))[j]? = some v → (((w.alloc (.cells zCart 27)).alloc (.cells (Z 12) 48)).alloc (.cells (Z 4) 49)).cell? (ad.add j) = some v := by
    intro j v hj
    refine pw_cell_below HT.out.bel (cells_of HR.out j v ?_)
    have hlt : j < 12 := by have := (List.getElem?_eq_some_iff.1 hj).1; simpa using this
    rw [List.getElem?_map] at hj ⊢
    rw [← hj]
    congr 1
    show _ = [h0, h1, h2, h3, h4, h5, h6, h7, h8, h9, h10, h11][j]?
    exact (List.getElem?_append_left (l₁ := [h0, h1, h2, h3, h4, h5, h6, h7, h8, h9, h10, h11]) (l₂ := g0 :: g1 :: g2 :: g3 :: rom) (by simpa using hlt))
  have HS0 := Lib.hid hsrc0
  clear hsrc0
  go_wp2_with (refine wpList_copy_own rfl (.tmp 12) (.tmp 13) 22 22 rfl 5 Try.underlying22 size5 (w.heap.size + 1) 0 12 12 ad (rom.length + 16) c0 rfl rfl (Z 12) 48 HT.out.head ([h0, h1, h2, h3, h4, h5, h6, h7, h8, h9, h10, h11].map (Value.int .u8)) (by simp) HS0.out (by simp) (by simp [Value.oneCell']) ?_)
  generalize hW1 : World.setRow _ _ _ = W1
  have hT1 : Three w W1 [h0, h1, h2, h3, h4, h5, h6, h7, h8, h9, h10, h11] (List.replicate 4 0) := by
    rw [← hW1]
    exact HT.out.head_set (hs' := [h0, h1, h2, h3, h4, h5, h6, h7, h8, h9, h10, h11])
  clear hW1 HS0 HT
  have HT1 := Aside0.mk hT1
  clear hT1
  obtain ⟨ad12, rfl, hc12⟩ := HR12.out.2.2 (by simp)
  have hsrc : ∀ (W : World), Below w.heap.size w W → ∀ j v, ([g0, g1, g2, g3].map (Value.int .u8))[j]? = some v → W.cell? (ad12.add j) = some v := by
    intro W hW j v hj
    have hlt : j < 4 := by have := (List.getElem?_eq_some_iff.1 hj).1; simpa using this
    refine pw_cell_below hW (cells_of HR12.out j v ?_)
    rw [List.getElem?_map] at hj ⊢
    rw [← hj]
    congr 1
    show (g0 :: g1 :: g2 :: g3 :: rom)[j]? = [g0, g1, g2, g3][j]?
    exact (List.getElem?_append_left (l₁ := [g0, g1, g2, g3]) (l₂ := rom) (by simpa using hlt))
  have HS1 := Lib.hid hsrc
  clear hsrc hc12
  go_region_law (refine step_copy_own rfl (.tmp 15) (.tmp 17) 22 22 rfl 5 Try.underlying22 size5 (w.heap.size + 2) 0 4 4 ad12 (rom.length + 4) (c0 - 12) rfl rfl (Z 4) 49 (by first | exact HT1.out.drew.sum | exact HT1.out.sum) ([g0, g1, g2, g3].map (Value.int .u8)) (by simp) (HS1.out _ (by first | exact HT1.out.drew.bel | exact HT1.out.bel)) (by simp) (by simp [Value.oneCell']) ?_)
  generalize hW2 : World.setRow _ _ _ = W2
  have hT2 : Three w W2 [h0, h1, h2, h3, h4, h5, h6, h7, h8, h9, h10, h11] [g0, g1, g2, g3] := by
    rw [← hW2]
    exact HT1.out.drew.sum_set (gs' := [g0, g1, g2, g3])
  have HT2 := Aside0.mk hT2
  clear hW2 hT2 HS1 HT1
  have hby : ∀ x ∈ [h5, h6, h7, h8, h9], 0 ≤ x ∧ x ≤ 255 := fun x hx => HBY.out x (by simp only [List.mem_cons, List.not_mem_nil, or_false] at hx ⊢; rcases hx with rfl | rfl | rfl | rfl | rfl <;> simp)
  obtain ⟨b5, b5'⟩ := hby h5 (by simp)
  obtain ⟨b6, b6'⟩ := hby h6 (by simp)
  obtain ⟨b7, b7'⟩ := hby h7 (by simp)
  obtain ⟨b8, b8'⟩ := hby h8 (by simp)
  obtain ⟨b9, b9'⟩ := hby h9 (by simp)
  clear hby
  have q5 : W2.cell? ⟨w.heap.size + 1, 5, none⟩ = some (.int .u8 h5) := (cell_of_row W2 _ 5 _ _ _ HT2.out.head).trans rfl
  have q6 : W2.cell? ⟨w.heap.size + 1, 6, none⟩ = some (.int .u8 h6) := (cell_of_row W2 _ 6 _ _ _ HT2.out.head).trans rfl
  have q7 : W2.cell? ⟨w.heap.size + 1, 7, none⟩ = some (.int .u8 h7) := (cell_of_row W2 _ 7 _ _ _ HT2.out.head).trans rfl
  have q8 : W2.cell? ⟨w.heap.size + 1, 8, none⟩ = some (.int .u8 h8) := (cell_of_row W2 _ 8 _ _ _ HT2.out.head).trans rfl
  have q9 : W2.cell? ⟨w.heap.size + 1, 9, none⟩ = some (.int .u8 h9) := (cell_of_row W2 _ 9 _ _ _ HT2.out.head).trans rfl
  have hsz := HT2.out.size
  go_upto_region 9 with (fail)
  clear q5 q6 q7 q8 q9
  have HF := Aside0.mk (HT2.out.four #[.int .i64 h5, .int .i64 h6, .int .i64 h7, .int .i64 h8, .int .i64 h9, .slice none 0 0])
  clear HT2
  generalize (W2.alloc (.cells #[.int .i64 h5, .int .i64 h6, .int .i64 h7, .int .i64 h8, .int .i64 h9, .slice none 0 0] 27)) = W3 at HF ⊢
  clear hsz
  have q0 : W3.cell? ⟨w.heap.size + 1, 0, none⟩ = some (.int .u8 h0) := (cell_of_row W3 _ 0 _ _ _ HF.out.head).trans rfl
  have q1 : W3.cell? ⟨w.heap.size + 1, 1, none⟩ = some (.int .u8 h1) := (cell_of_row W3 _ 1 _ _ _ HF.out.head).trans rfl
  have q2 : W3.cell? ⟨w.heap.size + 1, 2, none⟩ = some (.int .u8 h2) := (cell_of_row W3 _ 2 _ _ _ HF.out.head).trans rfl
  have q3 : W3.cell? ⟨w.heap.size + 1, 3, none⟩ = some (.int .u8 h3) := (cell_of_row W3 _ 3 _ _ _ HF.out.head).trans rfl
  have q4 : W3.cell? ⟨w.heap.size + 1, 4, none⟩ = some (.int .u8 h4) := (cell_of_row W3 _ 4 _ _ _ HF.out.head).trans rfl
  have q5 : W3.cell? ⟨w.heap.size + 1, 5, none⟩ = some (.int .u8 h5) := (cell_of_row W3 _ 5 _ _ _ HF.out.head).trans rfl
  have q6 : W3.cell? ⟨w.heap.size + 1, 6, none⟩ = some (.int .u8 h6) := (cell_of_row W3 _ 6 _ _ _ HF.out.head).trans rfl
  have q7 : W3.cell? ⟨w.heap.size + 1, 7, none⟩ = some (.int .u8 h7) := (cell_of_row W3 _ 7 _ _ _ HF.out.head).trans rfl
  have q8 : W3.cell? ⟨w.heap.size + 1, 8, none⟩ = some (.int .u8 h8) := (cell_of_row W3 _ 8 _ _ _ HF.out.head).trans rfl
  have q9 : W3.cell? ⟨w.heap.size + 1, 9, none⟩ = some (.int .u8 h9) := (cell_of_row W3 _ 9 _ _ _ HF.out.head).trans rfl
  have q10 : W3.cell? ⟨w.heap.size + 1, 10, none⟩ = some (.int .u8 h10) := (cell_of_row W3 _ 10 _ _ _ HF.out.head).trans rfl
  have q11 : W3.cell? ⟨w.heap.size + 1, 11, none⟩ = some (.int .u8 h11) := (cell_of_row W3 _ 11 _ _ _ HF.out.head).trans rfl
  have u0 : W3.cell? ⟨w.heap.size + 1 + 1, 0, none⟩ = some (.int .u8 g0) := (cell_of_row W3 _ 0 _ _ _ HF.out.sum).trans rfl
  have u1 : W3.cell? ⟨w.heap.size + 1 + 1, 1, none⟩ = some (.int .u8 g1) := (cell_of_row W3 _ 1 _ _ _ HF.out.sum).trans rfl
  have u2 : W3.cell? ⟨w.heap.size + 1 + 1, 2, none⟩ = some (.int .u8 g2) := (cell_of_row W3 _ 2 _ _ _ HF.out.sum).trans rfl
  have u3 : W3.cell? ⟨w.heap.size + 1 + 1, 3, none⟩ = some (.int .u8 g3) := (cell_of_row W3 _ 3 _ _ _ HF.out.sum).trans rfl
  have s0 : W3.cell? ⟨w.heap.size, 0, none⟩ = some (.int .i64 0) := (cell_of_row W3 _ 0 _ _ _ HF.out.res).trans rfl
  have k0 : W3.cell? ⟨w.heap.size + 3, 0, none⟩ = some (.int .i64 h5) := (cell_of_row W3 _ 0 _ _ _ HF.out.cart).trans rfl
  have s1 : W3.cell? ⟨w.heap.size, 1, none⟩ = some (.int .i64 0) := (cell_of_row W3 _ 1 _ _ _ HF.out.res).trans rfl
  have k1 : W3.cell? ⟨w.heap.size + 3, 1, none⟩ = some (.int .i64 h6) := (cell_of_row W3 _ 1 _ _ _ HF.out.cart).trans rfl
  have s2 : W3.cell? ⟨w.heap.size, 2, none⟩ = some (.int .i64 0) := (cell_of_row W3 _ 2 _ _ _ HF.out.res).trans rfl
  have k2 : W3.cell? ⟨w.heap.size + 3, 2, none⟩ = some (.int .i64 h7) := (cell_of_row W3 _ 2 _ _ _ HF.out.cart).trans rfl
  have s3 : W3.cell? ⟨w.heap.size, 3, none⟩ = some (.int .i64 0) := (cell_of_row W3 _ 3 _ _ _ HF.out.res).trans rfl
  have k3 : W3.cell? ⟨w.heap.size + 3, 3, none⟩ = some (.int .i64 h8) := (cell_of_row W3 _ 3 _ _ _ HF.out.cart).trans rfl
  have s4 : W3.cell? ⟨w.heap.size, 4, none⟩ = some (.int .i64 0) := (cell_of_row W3 _ 4 _ _ _ HF.out.res).trans rfl
  have k4 : W3.cell? ⟨w.heap.size + 3, 4, none⟩ = some (.int .i64 h9) := (cell_of_row W3 _ 4 _ _ _ HF.out.cart).trans rfl
  have s5 : W3.cell? ⟨w.heap.size, 5, none⟩ = some (.slice none 0 0) := (cell_of_row W3 _ 5 _ _ _ HF.out.res).trans rfl
  have k5 : W3.cell? ⟨w.heap.size + 3, 5, none⟩ = some (.slice none 0 0) := (cell_of_row W3 _ 5 _ _ _ HF.out.cart).trans rfl
  have fz : ∀ j, W3.frozen? ⟨w.heap.size, j, none⟩ = false := fun j => (by simp [World.frozen?, HF.out.res])
  have fk : ∀ j, W3.frozen? ⟨w.heap.size + 3, j, none⟩ = false := fun j => (by simp [World.frozen?, HF.out.cart])
  have hcv : (convert 22 9 (.slice (some ⟨w.heap.size + 1, 0, none⟩) 4 12)).run Try.prog W3 = .ok (.string (strOfNums [h0, h1, h2, h3])) W3 :=
    Kd.C_string (P := Try.prog) (A := some ⟨w.heap.size + 1, 0, none⟩) (c := 12) (xs := [h0, h1, h2, h3]) Try.underlying22 Try.underlying5 Try.underlying9 (Kd.C_of_reads (d := (0 : Int)) (h1 := fun _ => rfl) ⟨rfl, by simp, fun _ => ⟨_, rfl, fun j hj => by
      have e : (⟨w.heap.size + 1, 0, none⟩ : Addr).add j = ⟨w.heap.size + 1, j, none⟩ := by unfold Addr.add; split <;> simp_all
      rw [e]
      have hj : j < 4 := by simpa using hj
      rcases (by omega : j = 0 ∨ j = 1 ∨ j = 2 ∨ j = 3) with rfl | rfl | rfl | rfl
      · exact q0
      · exact q1
      · exact q2
      · exact q3⟩⟩)
  cases hM : (!(strOfNums [h0, h1, h2, h3]).toList == [67, 65, 82, 84]) with
  | true =>
    go_wp2_with (fail)
    generalize hW3 : World.setCell _ ⟨w.heap.size, 5, none⟩ _ = Wz
    obtain ⟨z, kb, ks⟩ := four_store HF.out _ _ _ _ _ _ Wz hW3
    clear hW3
    have r0 : Wz.cell? ⟨w.heap.size, 0, none⟩ = some (.int .i64 0) := (cell_of_row Wz _ 0 _ _ _ z).trans rfl
    have r1 : Wz.cell? ⟨w.heap.size, 1, none⟩ = some (.int .i64 0) := (cell_of_row Wz _ 1 _ _ _ z).trans rfl
    have r2 : Wz.cell? ⟨w.heap.size, 2, none⟩ = some (.int .i64 0) := (cell_of_row Wz _ 2 _ _ _ z).trans rfl
    have r3 : Wz.cell? ⟨w.heap.size, 3, none⟩ = some (.int .i64 0) := (cell_of_row Wz _ 3 _ _ _ z).trans rfl
    have r4 : Wz.cell? ⟨w.heap.size, 4, none⟩ = some (.int .i64 0) := (cell_of_row Wz _ 4 _ _ _ z).trans rfl
    have r5 : Wz.cell? ⟨w.heap.size, 5, none⟩ = some (.slice none 0 0) := (cell_of_row Wz _ 5 _ _ _ z).trans rfl
    have hp : pres h0 h1 h2 h3 h4 h5 h6 h7 h8 h9 h10 h11 g0 g1 g2 g3 rom = (0, 0, 0, 0, 0, [], 6) := by unfold pres; rw [if_pos hM]
    rw [hp]
    refine bodyPost_ret (v := .tuple #[.agg #[.int .i64 0, .int .i64 0, .int .i64 0, .int .i64 0, .int .i64 0, .slice none 0 0], .int .i64 6]) ?_ rfl ⟨_, rfl, Kd.R_nil _ _ _ _ _, kb⟩
    simp [results, Try.results9, go_sem, r0, r1, r2, r3, r4, r5]
  | false =>
    cases hV : (h4 != 1) with
    | true =>
      go_wp2_with (fail)
      generalize hW3 : World.setCell _ ⟨w.heap.size, 5, none⟩ _ = Wz
      obtain ⟨z, kb, ks⟩ := four_store HF.out _ _ _ _ _ _ Wz hW3
      clear hW3
      have r0 : Wz.cell? ⟨w.heap.size, 0, none⟩ = some (.int .i64 0) := (cell_of_row Wz _ 0 _ _ _ z).trans rfl
      have r1 : Wz.cell? ⟨w.heap.size, 1, none⟩ = some (.int .i64 0) := (cell_of_row Wz _ 1 _ _ _ z).trans rfl
      have r2 : Wz.cell? ⟨w.heap.size, 2, none⟩ = some (.int .i64 0) := (cell_of_row Wz _ 2 _ _ _ z).trans rfl
      have r3 : Wz.cell? ⟨w.heap.size, 3, none⟩ = some (.int .i64 0) := (cell_of_row Wz _ 3 _ _ _ z).trans rfl
      have r4 : Wz.cell? ⟨w.heap.size, 4, none⟩ = some (.int .i64 0) := (cell_of_row Wz _ 4 _ _ _ z).trans rfl
      have r5 : Wz.cell? ⟨w.heap.size, 5, none⟩ = some (.slice none 0 0) := (cell_of_row Wz _ 5 _ _ _ z).trans rfl
      have hp : pres h0 h1 h2 h3 h4 h5 h6 h7 h8 h9 h10 h11 g0 g1 g2 g3 rom = (0, 0, 0, 0, 0, [], 7) := by unfold pres; rw [if_neg (by rw [hM]; decide), if_pos hV]
      rw [hp]
      refine bodyPost_ret (v := .tuple #[.agg #[.int .i64 0, .int .i64 0, .int .i64 0, .int .i64 0, .int .i64 0, .slice none 0 0], .int .i64 7]) ?_ rfl ⟨_, rfl, Kd.R_nil _ _ _ _ _, kb⟩
      simp [results, Try.results9, go_sem, r0, r1, r2, r3, r4, r5]
    | false =>
      cases hR : bankR h5 h6 h7 h8 h9 with
      | false =>
        go_wp2_with (first | (go_at_call 20; (with_reducible refine (right_walk h5 h6 h7 h8 h9 _).mono ?_); rintro e W4 ⟨rfl, hd⟩; have HF4 := Aside0.mk (HF.out.below hd); clear hd HF; clear q0 q1 q2 q3 q4 q5 q6 q7 q8 q9 q10 q11 u0 u1 u2 u3 s0 k0 s1 k1 s2 k2 s3 k3 s4 k4 s5 k5 fz fk; have q0 : W4.cell? ⟨w.heap.size + 1, 0, none⟩ = some (.int .u8 h0) := (cell_of_row W4 _ 0 _ _ _ HF4.out.head).trans rfl; have q1 : W4.cell? ⟨w.heap.size + 1, 1, none⟩ = some (.int .u8 h1) := (cell_of_row W4 _ 1 _ _ _ HF4.out.head).trans rfl; have q2 : W4.cell? ⟨w.heap.size + 1, 2, none⟩ = some (.int .u8 h2) := (cell_of_row W4 _ 2 _ _ _ HF4.out.head).trans rfl; have q3 : W4.cell? ⟨w.heap.size + 1, 3, none⟩ = some (.int .u8 h3) := (cell_of_row W4 _ 3 _ _ _ HF4.out.head).trans rfl; have q4 : W4.cell? ⟨w.heap.size + 1, 4, none⟩ = some (.int .u8 h4) := (cell_of_row W4 _ 4 _ _ _ HF4.out.head).trans rfl; have q5 : W4.cell? ⟨w.heap.size + 1, 5, none⟩ = some (.int .u8 h5) := (cell_of_row W4 _ 5 _ _ _ HF4.out.head).trans rfl; have q6 : W4.cell? ⟨w.heap.size + 1, 6, none⟩ = some (.int .u8 h6) := (cell_of_row W4 _ 6 _ _ _ HF4.out.head).trans rfl; have q7 : W4.cell? ⟨w.heap.size + 1, 7, none⟩ = some (.int .u8 h7) := (cell_of_row W4 _ 7 _ _ _ HF4.out.head).trans rfl; have q8 : W4.cell? ⟨w.heap.size + 1, 8, none⟩ = some (.int .u8 h8) := (cell_of_row W4 _ 8 _ _ _ HF4.out.head).trans rfl; have q9 : W4.cell? ⟨w.heap.size + 1, 9, none⟩ = some (.int .u8 h9) := (cell_of_row W4 _ 9 _ _ _ HF4.out.head).trans rfl; have q10 : W4.cell? ⟨w.heap.size + 1, 10, none⟩ = some (.int .u8 h10) := (cell_of_row W4 _ 10 _ _ _ HF4.out.head).trans rfl; have q11 : W4.cell? ⟨w.heap.size + 1, 11, none⟩ = some (.int .u8 h11) := (cell_of_row W4 _ 11 _ _ _ HF4.out.head).trans rfl; have u0 : W4.cell? ⟨w.heap.size + 1 + 1, 0, none⟩ = some (.int .u8 g0) := (cell_of_row W4 _ 0 _ _ _ HF4.out.sum).trans rfl; have u1 : W4.cell? ⟨w.heap.size + 1 + 1, 1, none⟩ = some (.int .u8 g1) := (cell_of_row W4 _ 1 _ _ _ HF4.out.sum).trans rfl; have u2 : W4.cell? ⟨w.heap.size + 1 + 1, 2, none⟩ = some (.int .u8 g2) := (cell_of_row W4 _ 2 _ _ _ HF4.out.sum).trans rfl; have u3 : W4.cell? ⟨w.heap.size + 1 + 1, 3, none⟩ = some (.int .u8 g3) := (cell_of_row W4 _ 3 _ _ _ HF4.out.sum).trans rfl; have s0 : W4.cell? ⟨w.heap.size, 0, none⟩ = some (.int .i64 0) := (cell_of_row W4 _ 0 _ _ _ HF4.out.res).trans rfl; have k0 : W4.cell? ⟨w.heap.size + 3, 0, none⟩ = some (.int .i64 h5) := (cell_of_row W4 _ 0 _ _ _ HF4.out.cart).trans rfl; have s1 : W4.cell? ⟨w.heap.size, 1, none⟩ = some (.int .i64 0) := (cell_of_row W4 _ 1 _ _ _ HF4.out.res).trans rfl; have k1 : W4.cell? ⟨w.heap.size + 3, 1, none⟩ = some (.int .i64 h6) := (cell_of_row W4 _ 1 _ _ _ HF4.out.cart).trans rfl; have s2 : W4.cell? ⟨w.heap.size, 2, none⟩ = some (.int .i64 0) := (cell_of_row W4 _ 2 _ _ _ HF4.out.res).trans rfl; have k2 : W4.cell? ⟨w.heap.size + 3, 2, none⟩ = some (.int .i64 h7) := (cell_of_row W4 _ 2 _ _ _ HF4.out.cart).trans rfl; have s3 : W4.cell? ⟨w.heap.size, 3, none⟩ = some (.int .i64 0) := (cell_of_row W4 _ 3 _ _ _ HF4.out.res).trans rfl; have k3 : W4.cell? ⟨w.heap.size + 3, 3, none⟩ = some (.int .i64 h8) := (cell_of_row W4 _ 3 _ _ _ HF4.out.cart).trans rfl; have s4 : W4.cell? ⟨w.heap.size, 4, none⟩ = some (.int .i64 0) := (cell_of_row W4 _ 4 _ _ _ HF4.out.res).trans rfl; have k4 : W4.cell? ⟨w.heap.size + 3, 4, none⟩ = some (.int .i64 h9) := (cell_of_row W4 _ 4 _ _ _ HF4.out.cart).trans rfl; have s5 : W4.cell? ⟨w.heap.size, 5, none⟩ = some (.slice none 0 0) := (cell_of_row W4 _ 5 _ _ _ HF4.out.res).trans rfl; have k5 : W4.cell? ⟨w.heap.size + 3, 5, none⟩ = some (.slice none 0 0) := (cell_of_row W4 _ 5 _ _ _ HF4.out.cart).trans rfl; have fz : ∀ j, W4.frozen? ⟨w.heap.size, j, none⟩ = false := fun j => (by simp [World.frozen?, HF4.out.res]); have fk : ∀ j, W4.frozen? ⟨w.heap.size + 3, j, none⟩ = false := fun j => (by simp [World.frozen?, HF4.out.cart])))
        generalize hW3 : World.setCell _ ⟨w.heap.size, 5, none⟩ _ = Wz
        obtain ⟨z, kb, ks⟩ := four_store HF4.out _ _ _ _ _ _ Wz hW3
        clear hW3
        have r0 : Wz.cell? ⟨w.heap.size, 0, none⟩ = some (.int .i64 0) := (cell_of_row Wz _ 0 _ _ _ z).trans rfl
        have r1 : Wz.cell? ⟨w.heap.size, 1, none⟩ = some (.int .i64 0) := (cell_of_row Wz _ 1 _ _ _ z).trans rfl
        have r2 : Wz.cell? ⟨w.heap.size, 2, none⟩ = some (.int .i64 0) := (cell_of_row Wz _ 2 _ _ _ z).trans rfl
        have r3 : Wz.cell? ⟨w.heap.size, 3, none⟩ = some (.int .i64 0) := (cell_of_row Wz _ 3 _ _ _ z).trans rfl
        have r4 : Wz.cell? ⟨w.heap.size, 4, none⟩ = some (.int .i64 0) := (cell_of_row Wz _ 4 _ _ _ z).trans rfl
        have r5 : Wz.cell? ⟨w.heap.size, 5, none⟩ = some (.slice none 0 0) := (cell_of_row Wz _ 5 _ _ _ z).trans rfl
        have hp : pres h0 h1 h2 h3 h4 h5 h6 h7 h8 h9 h10 h11 g0 g1 g2 g3 rom = (0, 0, 0, 0, 0, [], 13) := by unfold pres; rw [if_neg (by rw [hM]; decide), if_neg (by rw [hV]; decide), if_pos hR]
        rw [hp]
        refine bodyPost_ret (v := .tuple #[.agg #[.int .i64 0, .int .i64 0, .int .i64 0, .int .i64 0, .int .i64 0, .slice none 0 0], .int .i64 13]) ?_ rfl ⟨_, rfl, Kd.R_nil _ _ _ _ _, kb⟩
        simp [results, Try.results9, go_sem, r0, r1, r2, r3, r4, r5]
      | true =>
        cases hX : (h10 != 0) with
        | true =>
          go_wp2_with (first | (go_at_call 20; (with_reducible refine (right_walk h5 h6 h7 h8 h9 _).mono ?_); rintro e W4 ⟨rfl, hd⟩; have HF4 := Aside0.mk (HF.out.below hd); clear hd HF; clear q0 q1 q2 q3 q4 q5 q6 q7 q8 q9 q10 q11 u0 u1 u2 u3 s0 k0 s1 k1 s2 k2 s3 k3 s4 k4 s5 k5 fz fk; have q0 : W4.cell? ⟨w.heap.size + 1, 0, none⟩ = some (.int .u8 h0) := (cell_of_row W4 _ 0 _ _ _ HF4.out.head).trans rfl; have q1 : W4.cell? ⟨w.heap.size + 1, 1, none⟩ = some (.int .u8 h1) := (cell_of_row W4 _ 1 _ _ _ HF4.out.head).trans rfl; have q2 : W4.cell? ⟨w.heap.size + 1, 2, none⟩ = some (.int .u8 h2) := (cell_of_row W4 _ 2 _ _ _ HF4.out.head).trans rfl; have q3 : W4.cell? ⟨w.heap.size + 1, 3, none⟩ = some (.int .u8 h3) := (cell_of_row W4 _ 3 _ _ _ HF4.out.head).trans rfl; have q4 : W4.cell? ⟨w.heap.size + 1, 4, none⟩ = some (.int .u8 h4) := (cell_of_row W4 _ 4 _ _ _ HF4.out.head).trans rfl; have q5 : W4.cell? ⟨w.heap.size + 1, 5, none⟩ = some (.int .u8 h5) := (cell_of_row W4 _ 5 _ _ _ HF4.out.head).trans rfl; have q6 : W4.cell? ⟨w.heap.size + 1, 6, none⟩ = some (.int .u8 h6) := (cell_of_row W4 _ 6 _ _ _ HF4.out.head).trans rfl; have q7 : W4.cell? ⟨w.heap.size + 1, 7, none⟩ = some (.int .u8 h7) := (cell_of_row W4 _ 7 _ _ _ HF4.out.head).trans rfl; have q8 : W4.cell? ⟨w.heap.size + 1, 8, none⟩ = some (.int .u8 h8) := (cell_of_row W4 _ 8 _ _ _ HF4.out.head).trans rfl; have q9 : W4.cell? ⟨w.heap.size + 1, 9, none⟩ = some (.int .u8 h9) := (cell_of_row W4 _ 9 _ _ _ HF4.out.head).trans rfl; have q10 : W4.cell? ⟨w.heap.size + 1, 10, none⟩ = some (.int .u8 h10) := (cell_of_row W4 _ 10 _ _ _ HF4.out.head).trans rfl; have q11 : W4.cell? ⟨w.heap.size + 1, 11, none⟩ = some (.int .u8 h11) := (cell_of_row W4 _ 11 _ _ _ HF4.out.head).trans rfl; have u0 : W4.cell? ⟨w.heap.size + 1 + 1, 0, none⟩ = some (.int .u8 g0) := (cell_of_row W4 _ 0 _ _ _ HF4.out.sum).trans rfl; have u1 : W4.cell? ⟨w.heap.size + 1 + 1, 1, none⟩ = some (.int .u8 g1) := (cell_of_row W4 _ 1 _ _ _ HF4.out.sum).trans rfl; have u2 : W4.cell? ⟨w.heap.size + 1 + 1, 2, none⟩ = some (.int .u8 g2) := (cell_of_row W4 _ 2 _ _ _ HF4.out.sum).trans rfl; have u3 : W4.cell? ⟨w.heap.size + 1 + 1, 3, none⟩ = some (.int .u8 g3) := (cell_of_row W4 _ 3 _ _ _ HF4.out.sum).trans rfl; have s0 : W4.cell? ⟨w.heap.size, 0, none⟩ = some (.int .i64 0) := (cell_of_row W4 _ 0 _ _ _ HF4.out.res).trans rfl; have k0 : W4.cell? ⟨w.heap.size + 3, 0, none⟩ = some (.int .i64 h5) := (cell_of_row W4 _ 0 _ _ _ HF4.out.cart).trans rfl; have s1 : W4.cell? ⟨w.heap.size, 1, none⟩ = some (.int .i64 0) := (cell_of_row W4 _ 1 _ _ _ HF4.out.res).trans rfl; have k1 : W4.cell? ⟨w.heap.size + 3, 1, none⟩ = some (.int .i64 h6) := (cell_of_row W4 _ 1 _ _ _ HF4.out.cart).trans rfl; have s2 : W4.cell? ⟨w.heap.size, 2, none⟩ = some (.int .i64 0) := (cell_of_row W4 _ 2 _ _ _ HF4.out.res).trans rfl; have k2 : W4.cell? ⟨w.heap.size + 3, 2, none⟩ = some (.int .i64 h7) := (cell_of_row W4 _ 2 _ _ _ HF4.out.cart).trans rfl; have s3 : W4.cell? ⟨w.heap.size, 3, none⟩ = some (.int .i64 0) := (cell_of_row W4 _ 3 _ _ _ HF4.out.res).trans rfl; have k3 : W4.cell? ⟨w.heap.size + 3, 3, none⟩ = some (.int .i64 h8) := (cell_of_row W4 _ 3 _ _ _ HF4.out.cart).trans rfl; have s4 : W4.cell? ⟨w.heap.size, 4, none⟩ = some (.int .i64 0) := (cell_of_row W4 _ 4 _ _ _ HF4.out.res).trans rfl; have k4 : W4.cell? ⟨w.heap.size + 3, 4, none⟩ = some (.int .i64 h9) := (cell_of_row W4 _ 4 _ _ _ HF4.out.cart).trans rfl; have s5 : W4.cell? ⟨w.heap.size, 5, none⟩ = some (.slice none 0 0) := (cell_of_row W4 _ 5 _ _ _ HF4.out.res).trans rfl; have k5 : W4.cell? ⟨w.heap.size + 3, 5, none⟩ = some (.slice none 0 0) := (cell_of_row W4 _ 5 _ _ _ HF4.out.cart).trans rfl; have fz : ∀ j, W4.frozen? ⟨w.heap.size, j, none⟩ = false := fun j => (by simp [World.frozen?, HF4.out.res]); have fk : ∀ j, W4.frozen? ⟨w.heap.size + 3, j, none⟩ = false := fun j => (by simp [World.frozen?, HF4.out.cart])))
          generalize hW3 : World.setCell _ ⟨w.heap.size, 5, none⟩ _ = Wz
          obtain ⟨z, kb, ks⟩ := four_store HF4.out _ _ _ _ _ _ Wz hW3
          clear hW3
          have r0 : Wz.cell? ⟨w.heap.size, 0, none⟩ = some (.int .i64 0) := (cell_of_row Wz _ 0 _ _ _ z).trans rfl
          have r1 : Wz.cell? ⟨w.heap.size, 1, none⟩ = some (.int .i64 0) := (cell_of_row Wz _ 1 _ _ _ z).trans rfl
          have r2 : Wz.cell? ⟨w.heap.size, 2, none⟩ = some (.int .i64 0) := (cell_of_row Wz _ 2 _ _ _ z).trans rfl
          have r3 : Wz.cell? ⟨w.heap.size, 3, none⟩ = some (.int .i64 0) := (cell_of_row Wz _ 3 _ _ _ z).trans rfl
          have r4 : Wz.cell? ⟨w.heap.size, 4, none⟩ = some (.int .i64 0) := (cell_of_row Wz _ 4 _ _ _ z).trans rfl
          have r5 : Wz.cell? ⟨w.heap.size, 5, none⟩ = some (.slice none 0 0) := (cell_of_row Wz _ 5 _ _ _ z).trans rfl
          have hp : pres h0 h1 h2 h3 h4 h5 h6 h7 h8 h9 h10 h11 g0 g1 g2 g3 rom = (0, 0, 0, 0, 0, [], 13) := by unfold pres; rw [if_neg (by rw [hM]; decide), if_neg (by rw [hV]; decide), if_neg (by rw [hR]; decide), if_pos hX]
          rw [hp]
          refine bodyPost_ret (v := .tuple #[.agg #[.int .i64 0, .int .i64 0, .int .i64 0, .int .i64 0, .int .i64 0, .slice none 0 0], .int .i64 13]) ?_ rfl ⟨_, rfl, Kd.R_nil _ _ _ _ _, kb⟩
          simp [results, Try.results9, go_sem, r0, r1, r2, r3, r4, r5]
        | false =>
          cases hY : (h11 != 0) with
          | true =>
            go_wp2_with (first | (go_at_call 20; (with_reducible refine (right_walk h5 h6 h7 h8 h9 _).mono ?_); rintro e W4 ⟨rfl, hd⟩; have HF4 := Aside0.mk (HF.out.below hd); clear hd HF; clear q0 q1 q2 q3 q4 q5 q6 q7 q8 q9 q10 q11 u0 u1 u2 u3 s0 k0 s1 k1 s2 k2 s3 k3 s4 k4 s5 k5 fz fk; have q0 : W4.cell? ⟨w.heap.size + 1, 0, none⟩ = some (.int .u8 h0) := (cell_of_row W4 _ 0 _ _ _ HF4.out.head).trans rfl; have q1 : W4.cell? ⟨w.heap.size + 1, 1, none⟩ = some (.int .u8 h1) := (cell_of_row W4 _ 1 _ _ _ HF4.out.head).trans rfl; have q2 : W4.cell? ⟨w.heap.size + 1, 2, none⟩ = some (.int .u8 h2) := (cell_of_row W4 _ 2 _ _ _ HF4.out.head).trans rfl; have q3 : W4.cell? ⟨w.heap.size + 1, 3, none⟩ = some (.int .u8 h3) := (cell_of_row W4 _ 3 _ _ _ HF4.out.head).trans rfl; have q4 : W4.cell? ⟨w.heap.size + 1, 4, none⟩ = some (.int .u8 h4) := (cell_of_row W4 _ 4 _ _ _ HF4.out.head).trans rfl; have q5 : W4.cell? ⟨w.heap.size + 1, 5, none⟩ = some (.int .u8 h5) := (cell_of_row W4 _ 5 _ _ _ HF4.out.head).trans rfl; have q6 : W4.cell? ⟨w.heap.size + 1, 6, none⟩ = some (.int .u8 h6) := (cell_of_row W4 _ 6 _ _ _ HF4.out.head).trans rfl; have q7 : W4.cell? ⟨w.heap.size + 1, 7, none⟩ = some (.int .u8 h7) := (cell_of_row W4 _ 7 _ _ _ HF4.out.head).trans rfl; have q8 : W4.cell? ⟨w.heap.size + 1, 8, none⟩ = some (.int .u8 h8) := (cell_of_row W4 _ 8 _ _ _ HF4.out.head).trans rfl; have q9 : W4.cell? ⟨w.heap.size + 1, 9, none⟩ = some (.int .u8 h9) := (cell_of_row W4 _ 9 _ _ _ HF4.out.head).trans rfl; have q10 : W4.cell? ⟨w.heap.size + 1, 10, none⟩ = some (.int .u8 h10) := (cell_of_row W4 _ 10 _ _ _ HF4.out.head).trans rfl; have q11 : W4.cell? ⟨w.heap.size + 1, 11, none⟩ = some (.int .u8 h11) := (cell_of_row W4 _ 11 _ _ _ HF4.out.head).trans rfl; have u0 : W4.cell? ⟨w.heap.size + 1 + 1, 0, none⟩ = some (.int .u8 g0) := (cell_of_row W4 _ 0 _ _ _ HF4.out.sum).trans rfl; have u1 : W4.cell? ⟨w.heap.size + 1 + 1, 1, none⟩ = some (.int .u8 g1) := (cell_of_row W4 _ 1 _ _ _ HF4.out.sum).trans rfl; have u2 : W4.cell? ⟨w.heap.size + 1 + 1, 2, none⟩ = some (.int .u8 g2) := (cell_of_row W4 _ 2 _ _ _ HF4.out.sum).trans rfl; have u3 : W4.cell? ⟨w.heap.size + 1 + 1, 3, none⟩ = some (.int .u8 g3) := (cell_of_row W4 _ 3 _ _ _ HF4.out.sum).trans rfl; have s0 : W4.cell? ⟨w.heap.size, 0, none⟩ = some (.int .i64 0) := (cell_of_row W4 _ 0 _ _ _ HF4.out.res).trans rfl; have k0 : W4.cell? ⟨w.heap.size + 3, 0, none⟩ = some (.int .i64 h5) := (cell_of_row W4 _ 0 _ _ _ HF4.out.cart).trans rfl; have s1 : W4.cell? ⟨w.heap.size, 1, none⟩ = some (.int .i64 0) := (cell_of_row W4 _ 1 _ _ _ HF4.out.res).trans rfl; have k1 : W4.cell? ⟨w.heap.size + 3, 1, none⟩ = some (.int .i64 h6) := (cell_of_row W4 _ 1 _ _ _ HF4.out.cart).trans rfl; have s2 : W4.cell? ⟨w.heap.size, 2, none⟩ = some (.int .i64 0) := (cell_of_row W4 _ 2 _ _ _ HF4.out.res).trans rfl; have k2 : W4.cell? ⟨w.heap.size + 3, 2, none⟩ = some (.int .i64 h7) := (cell_of_row W4 _ 2 _ _ _ HF4.out.cart).trans rfl; have s3 : W4.cell? ⟨w.heap.size, 3, none⟩ = some (.int .i64 0) := (cell_of_row W4 _ 3 _ _ _ HF4.out.res).trans rfl; have k3 : W4.cell? ⟨w.heap.size + 3, 3, none⟩ = some (.int .i64 h8) := (cell_of_row W4 _ 3 _ _ _ HF4.out.cart).trans rfl; have s4 : W4.cell? ⟨w.heap.size, 4, none⟩ = some (.int .i64 0) := (cell_of_row W4 _ 4 _ _ _ HF4.out.res).trans rfl; have k4 : W4.cell? ⟨w.heap.size + 3, 4, none⟩ = some (.int .i64 h9) := (cell_of_row W4 _ 4 _ _ _ HF4.out.cart).trans rfl; have s5 : W4.cell? ⟨w.heap.size, 5, none⟩ = some (.slice none 0 0) := (cell_of_row W4 _ 5 _ _ _ HF4.out.res).trans rfl; have k5 : W4.cell? ⟨w.heap.size + 3, 5, none⟩ = some (.slice none 0 0) := (cell_of_row W4 _ 5 _ _ _ HF4.out.cart).trans rfl; have fz : ∀ j, W4.frozen? ⟨w.heap.size, j, none⟩ = false := fun j => (by simp [World.frozen?, HF4.out.res]); have fk : ∀ j, W4.frozen? ⟨w.heap.size + 3, j, none⟩ = false := fun j => (by simp [World.frozen?, HF4.out.cart])))
            generalize hW3 : World.setCell _ ⟨w.heap.size, 5, none⟩ _ = Wz
            obtain ⟨z, kb, ks⟩ := four_store HF4.out _ _ _ _ _ _ Wz hW3
            clear hW3
            have r0 : Wz.cell? ⟨w.heap.size, 0, none⟩ = some (.int .i64 0) := (cell_of_row Wz _ 0 _ _ _ z).trans rfl
            have r1 : Wz.cell? ⟨w.heap.size, 1, none⟩ = some (.int .i64 0) := (cell_of_row Wz _ 1 _ _ _ z).trans rfl
            have r2 : Wz.cell? ⟨w.heap.size, 2, none⟩ = some (.int .i64 0) := (cell_of_row Wz _ 2 _ _ _ z).trans rfl
            have r3 : Wz.cell? ⟨w.heap.size, 3, none⟩ = some (.int .i64 0) := (cell_of_row Wz _ 3 _ _ _ z).trans rfl
            have r4 : Wz.cell? ⟨w.heap.size, 4, none⟩ = some (.int .i64 0) := (cell_of_row Wz _ 4 _ _ _ z).trans rfl
            have r5 : Wz.cell? ⟨w.heap.size, 5, none⟩ = some (.slice none 0 0) := (cell_of_row Wz _ 5 _ _ _ z).trans rfl
            have hp : pres h0 h1 h2 h3 h4 h5 h6 h7 h8 h9 h10 h11 g0 g1 g2 g3 rom = (0, 0, 0, 0, 0, [], 13) := by unfold pres; rw [if_neg (by rw [hM]; decide), if_neg (by rw [hV]; decide), if_neg (by rw [hR]; decide), if_neg (by rw [hX]; decide), if_pos hY]
            rw [hp]
            refine bodyPost_ret (v := .tuple #[.agg #[.int .i64 0, .int .i64 0, .int .i64 0, .int .i64 0, .int .i64 0, .slice none 0 0], .int .i64 13]) ?_ rfl ⟨_, rfl, Kd.R_nil _ _ _ _ _, kb⟩
            simp [results, Try.results9, go_sem, r0, r1, r2, r3, r4, r5]
          | false =>
            by_cases hS : (rom.length : Int) < bankL h5 h6 h7 h8 h9
            · go_wp2_with (first | (go_at_call 20; (with_reducible refine (right_walk h5 h6 h7 h8 h9 _).mono ?_); rintro e W4 ⟨rfl, hd⟩; have HF4 := Aside0.mk (HF.out.below hd); clear hd HF; clear q0 q1 q2 q3 q4 q5 q6 q7 q8 q9 q10 q11 u0 u1 u2 u3 s0 k0 s1 k1 s2 k2 s3 k3 s4 k4 s5 k5 fz fk; have q0 : W4.cell? ⟨w.heap.size + 1, 0, none⟩ = some (.int .u8 h0) := (cell_of_row W4 _ 0 _ _ _ HF4.out.head).trans rfl; have q1 : W4.cell? ⟨w.heap.size + 1, 1, none⟩ = some (.int .u8 h1) := (cell_of_row W4 _ 1 _ _ _ HF4.out.head).trans rfl; have q2 : W4.cell? ⟨w.heap.size + 1, 2, none⟩ = some (.int .u8 h2) := (cell_of_row W4 _ 2 _ _ _ HF4.out.head).trans rfl; have q3 : W4.cell? ⟨w.heap.size + 1, 3, none⟩ = some (.int .u8 h3) := (cell_of_row W4 _ 3 _ _ _ HF4.out.head).trans rfl; have q4 : W4.cell? ⟨w.heap.size + 1, 4, none⟩ = some (.int .u8 h4) := (cell_of_row W4 _ 4 _ _ _ HF4.out.head).trans rfl; have q5 : W4.cell? ⟨w.heap.size + 1, 5, none⟩ = some (.int .u8 h5) := (cell_of_row W4 _ 5 _ _ _ HF4.out.head).trans rfl; have q6 : W4.cell? ⟨w.heap.size + 1, 6, none⟩ = some (.int .u8 h6) := (cell_of_row W4 _ 6 _ _ _ HF4.out.head).trans rfl; have q7 : W4.cell? ⟨w.heap.size + 1, 7, none⟩ = some (.int .u8 h7) := (cell_of_row W4 _ 7 _ _ _ HF4.out.head).trans rfl; have q8 : W4.cell? ⟨w.heap.size + 1, 8, none⟩ = some (.int .u8 h8) := (cell_of_row W4 _ 8 _ _ _ HF4.out.head).trans rfl; have q9 : W4.cell? ⟨w.heap.size + 1, 9, none⟩ = some (.int .u8 h9) := (cell_of_row W4 _ 9 _ _ _ HF4.out.head).trans rfl; have q10 : W4.cell? ⟨w.heap.size + 1, 10, none⟩ = some (.int .u8 h10) := (cell_of_row W4 _ 10 _ _ _ HF4.out.head).trans rfl; have q11 : W4.cell? ⟨w.heap.size + 1, 11, none⟩ = some (.int .u8 h11) := (cell_of_row W4 _ 11 _ _ _ HF4.out.head).trans rfl; have u0 : W4.cell? ⟨w.heap.size + 1 + 1, 0, none⟩ = some (.int .u8 g0) := (cell_of_row W4 _ 0 _ _ _ HF4.out.sum).trans rfl; have u1 : W4.cell? ⟨w.heap.size + 1 + 1, 1, none⟩ = some (.int .u8 g1) := (cell_of_row W4 _ 1 _ _ _ HF4.out.sum).trans rfl; have u2 : W4.cell? ⟨w.heap.size + 1 + 1, 2, none⟩ = some (.int .u8 g2) := (cell_of_row W4 _ 2 _ _ _ HF4.out.sum).trans rfl; have u3 : W4.cell? ⟨w.heap.size + 1 + 1, 3, none⟩ = some (.int .u8 g3) := (cell_of_row W4 _ 3 _ _ _ HF4.out.sum).trans rfl; have s0 : W4.cell? ⟨w.heap.size, 0, none⟩ = some (.int .i64 0) := (cell_of_row W4 _ 0 _ _ _ HF4.out.res).trans rfl; have k0 : W4.cell? ⟨w.heap.size + 3, 0, none⟩ = some (.int .i64 h5) := (cell_of_row W4 _ 0 _ _ _ HF4.out.cart).trans rfl; have s1 : W4.cell? ⟨w.heap.size, 1, none⟩ = some (.int .i64 0) := (cell_of_row W4 _ 1 _ _ _ HF4.out.res).trans rfl; have k1 : W4.cell? ⟨w.heap.size + 3, 1, none⟩ = some (.int .i64 h6) := (cell_of_row W4 _ 1 _ _ _ HF4.out.cart).trans rfl; have s2 : W4.cell? ⟨w.heap.size, 2, none⟩ = some (.int .i64 0) := (cell_of_row W4 _ 2 _ _ _ HF4.out.res).trans rfl; have k2 : W4.cell? ⟨w.heap.size + 3, 2, none⟩ = some (.int .i64 h7) := (cell_of_row W4 _ 2 _ _ _ HF4.out.cart).trans rfl; have s3 : W4.cell? ⟨w.heap.size, 3, none⟩ = some (.int .i64 0) := (cell_of_row W4 _ 3 _ _ _ HF4.out.res).trans rfl; have k3 : W4.cell? ⟨w.heap.size + 3, 3, none⟩ = some (.int .i64 h8) := (cell_of_row W4 _ 3 _ _ _ HF4.out.cart).trans rfl; have s4 : W4.cell? ⟨w.heap.size, 4, none⟩ = some (.int .i64 0) := (cell_of_row W4 _ 4 _ _ _ HF4.out.res).trans rfl; have k4 : W4.cell? ⟨w.heap.size + 3, 4, none⟩ = some (.int .i64 h9) := (cell_of_row W4 _ 4 _ _ _ HF4.out.cart).trans rfl; have s5 : W4.cell? ⟨w.heap.size, 5, none⟩ = some (.slice none 0 0) := (cell_of_row W4 _ 5 _ _ _ HF4.out.res).trans rfl; have k5 : W4.cell? ⟨w.heap.size + 3, 5, none⟩ = some (.slice none 0 0) := (cell_of_row W4 _ 5 _ _ _ HF4.out.cart).trans rfl; have fz : ∀ j, W4.frozen? ⟨w.heap.size, j, none⟩ = false := fun j => (by simp [World.frozen?, HF4.out.res]); have fk : ∀ j, W4.frozen? ⟨w.heap.size + 3, j, none⟩ = false := fun j => (by simp [World.frozen?, HF4.out.cart])) | (go_at_call 21; (with_reducible refine (long_walk h5 h6 h7 h8 h9 b5 _).mono ?_); rintro e W5 ⟨rfl, hd⟩; have HF5 := Aside0.mk (HF4.out.below hd); clear hd HF4; clear q0 q1 q2 q3 q4 q5 q6 q7 q8 q9 q10 q11 u0 u1 u2 u3 s0 k0 s1 k1 s2 k2 s3 k3 s4 k4 s5 k5 fz fk; have q0 : W5.cell? ⟨w.heap.size + 1, 0, none⟩ = some (.int .u8 h0) := (cell_of_row W5 _ 0 _ _ _ HF5.out.head).trans rfl; have q1 : W5.cell? ⟨w.heap.size + 1, 1, none⟩ = some (.int .u8 h1) := (cell_of_row W5 _ 1 _ _ _ HF5.out.head).trans rfl; have q2 : W5.cell? ⟨w.heap.size + 1, 2, none⟩ = some (.int .u8 h2) := (cell_of_row W5 _ 2 _ _ _ HF5.out.head).trans rfl; have q3 : W5.cell? ⟨w.heap.size + 1, 3, none⟩ = some (.int .u8 h3) := (cell_of_row W5 _ 3 _ _ _ HF5.out.head).trans rfl; have q4 : W5.cell? ⟨w.heap.size + 1, 4, none⟩ = some (.int .u8 h4) := (cell_of_row W5 _ 4 _ _ _ HF5.out.head).trans rfl; have q5 : W5.cell? ⟨w.heap.size + 1, 5, none⟩ = some (.int .u8 h5) := (cell_of_row W5 _ 5 _ _ _ HF5.out.head).trans rfl; have q6 : W5.cell? ⟨w.heap.size + 1, 6, none⟩ = some (.int .u8 h6) := (cell_of_row W5 _ 6 _ _ _ HF5.out.head).trans rfl; have q7 : W5.cell? ⟨w.heap.size + 1, 7, none⟩ = some (.int .u8 h7) := (cell_of_row W5 _ 7 _ _ _ HF5.out.head).trans rfl; have q8 : W5.cell? ⟨w.heap.size + 1, 8, none⟩ = some (.int .u8 h8) := (cell_of_row W5 _ 8 _ _ _ HF5.out.head).trans rfl; have q9 : W5.cell? ⟨w.heap.size + 1, 9, none⟩ = some (.int .u8 h9) := (cell_of_row W5 _ 9 _ _ _ HF5.out.head).trans rfl; have q10 : W5.cell? ⟨w.heap.size + 1, 10, none⟩ = some (.int .u8 h10) := (cell_of_row W5 _ 10 _ _ _ HF5.out.head).trans rfl; have q11 : W5.cell? ⟨w.heap.size + 1, 11, none⟩ = some (.int .u8 h11) := (cell_of_row W5 _ 11 _ _ _ HF5.out.head).trans rfl; have u0 : W5.cell? ⟨w.heap.size + 1 + 1, 0, none⟩ = some (.int .u8 g0) := (cell_of_row W5 _ 0 _ _ _ HF5.out.sum).trans rfl; have u1 : W5.cell? ⟨w.heap.size + 1 + 1, 1, none⟩ = some (.int .u8 g1) := (cell_of_row W5 _ 1 _ _ _ HF5.out.sum).trans rfl; have u2 : W5.cell? ⟨w.heap.size + 1 + 1, 2, none⟩ = some (.int .u8 g2) := (cell_of_row W5 _ 2 _ _ _ HF5.out.sum).trans rfl; have u3 : W5.cell? ⟨w.heap.size + 1 + 1, 3, none⟩ = some (.int .u8 g3) := (cell_of_row W5 _ 3 _ _ _ HF5.out.sum).trans rfl; have s0 : W5.cell? ⟨w.heap.size, 0, none⟩ = some (.int .i64 0) := (cell_of_row W5 _ 0 _ _ _ HF5.out.res).trans rfl; have k0 : W5.cell? ⟨w.heap.size + 3, 0, none⟩ = some (.int .i64 h5) := (cell_of_row W5 _ 0 _ _ _ HF5.out.cart).trans rfl; have s1 : W5.cell? ⟨w.heap.size, 1, none⟩ = some (.int .i64 0) := (cell_of_row W5 _ 1 _ _ _ HF5.out.res).trans rfl; have k1 : W5.cell? ⟨w.heap.size + 3, 1, none⟩ = some (.int .i64 h6) := (cell_of_row W5 _ 1 _ _ _ HF5.out.cart).trans rfl; have s2 : W5.cell? ⟨w.heap.size, 2, none⟩ = some (.int .i64 0) := (cell_of_row W5 _ 2 _ _ _ HF5.out.res).trans rfl; have k2 : W5.cell? ⟨w.heap.size + 3, 2, none⟩ = some (.int .i64 h7) := (cell_of_row W5 _ 2 _ _ _ HF5.out.cart).trans rfl; have s3 : W5.cell? ⟨w.heap.size, 3, none⟩ = some (.int .i64 0) := (cell_of_row W5 _ 3 _ _ _ HF5.out.res).trans rfl; have k3 : W5.cell? ⟨w.heap.size + 3, 3, none⟩ = some (.int .i64 h8) := (cell_of_row W5 _ 3 _ _ _ HF5.out.cart).trans rfl; have s4 : W5.cell? ⟨w.heap.size, 4, none⟩ = some (.int .i64 0) := (cell_of_row W5 _ 4 _ _ _ HF5.out.res).trans rfl; have k4 : W5.cell? ⟨w.heap.size + 3, 4, none⟩ = some (.int .i64 h9) := (cell_of_row W5 _ 4 _ _ _ HF5.out.cart).trans rfl; have s5 : W5.cell? ⟨w.heap.size, 5, none⟩ = some (.slice none 0 0) := (cell_of_row W5 _ 5 _ _ _ HF5.out.res).trans rfl; have k5 : W5.cell? ⟨w.heap.size + 3, 5, none⟩ = some (.slice none 0 0) := (cell_of_row W5 _ 5 _ _ _ HF5.out.cart).trans rfl; have fz : ∀ j, W5.frozen? ⟨w.heap.size, j, none⟩ = false := fun j => (by simp [World.frozen?, HF5.out.res]); have fk : ∀ j, W5.frozen? ⟨w.heap.size + 3, j, none⟩ = false := fun j => (by simp [World.frozen?, HF5.out.cart])))
              generalize hW3 : World.setCell _ ⟨w.heap.size, 5, none⟩ _ = Wz
              obtain ⟨z, kb, ks⟩ := four_store HF5.out _ _ _ _ _ _ Wz hW3
              clear hW3
              have r0 : Wz.cell? ⟨w.heap.size, 0, none⟩ = some (.int .i64 0) := (cell_of_row Wz _ 0 _ _ _ z).trans rfl
              have r1 : Wz.cell? ⟨w.heap.size, 1, none⟩ = some (.int .i64 0) := (cell_of_row Wz _ 1 _ _ _ z).trans rfl
              have r2 : Wz.cell? ⟨w.heap.size, 2, none⟩ = some (.int .i64 0) := (cell_of_row Wz _ 2 _ _ _ z).trans rfl
              have r3 : Wz.cell? ⟨w.heap.size, 3, none⟩ = some (.int .i64 0) := (cell_of_row Wz _ 3 _ _ _ z).trans rfl
              have r4 : Wz.cell? ⟨w.heap.size, 4, none⟩ = some (.int .i64 0) := (cell_of_row Wz _ 4 _ _ _ z).trans rfl
              have r5 : Wz.cell? ⟨w.heap.size, 5, none⟩ = some (.slice none 0 0) := (cell_of_row Wz _ 5 _ _ _ z).trans rfl
              have hp : pres h0 h1 h2 h3 h4 h5 h6 h7 h8 h9 h10 h11 g0 g1 g2 g3 rom = (0, 0, 0, 0, 0, [], 5) := by unfold pres; rw [if_neg (by rw [hM]; decide), if_neg (by rw [hV]; decide), if_neg (by rw [hR]; decide), if_neg (by rw [hX]; decide), if_neg (by rw [hY]; decide), if_pos hS]
              rw [hp]
              refine bodyPost_ret (v := .tuple #[.agg #[.int .i64 0, .int .i64 0, .int .i64 0, .int .i64 0, .int .i64 0, .slice none 0 0], .int .i64 5]) ?_ rfl ⟨_, rfl, Kd.R_nil _ _ _ _ _, kb⟩
              simp [results, Try.results9, go_sem, r0, r1, r2, r3, r4, r5]
            · by_cases hT : bankL h5 h6 h7 h8 h9 < (rom.length : Int)
              · go_wp2_with (first | (go_at_call 20; (with_reducible refine (right_walk h5 h6 h7 h8 h9 _).mono ?_); rintro e W4 ⟨rfl, hd⟩; have HF4 := Aside0.mk (HF.out.below hd); clear hd HF; clear q0 q1 q2 q3 q4 q5 q6 q7 q8 q9 q10 q11 u0 u1 u2 u3 s0 k0 s1 k1 s2 k2 s3 k3 s4 k4 s5 k5 fz fk; have q0 : W4.cell? ⟨w.heap.size + 1, 0, none⟩ = some (.int .u8 h0) := (cell_of_row W4 _ 0 _ _ _ HF4.out.head).trans rfl; have q1 : W4.cell? ⟨w.heap.size + 1, 1, none⟩ = some (.int .u8 h1) := (cell_of_row W4 _ 1 _ _ _ HF4.out.head).trans rfl; have q2 : W4.cell? ⟨w.heap.size + 1, 2, none⟩ = some (.int .u8 h2) := (cell_of_row W4 _ 2 _ _ _ HF4.out.head).trans rfl; have q3 : W4.cell? ⟨w.heap.size + 1, 3, none⟩ = some (.int .u8 h3) := (cell_of_row W4 _ 3 _ _ _ HF4.out.head).trans rfl; have q4 : W4.cell? ⟨w.heap.size + 1, 4, none⟩ = some (.int .u8 h4) := (cell_of_row W4 _ 4 _ _ _ HF4.out.head).trans rfl; have q5 : W4.cell? ⟨w.heap.size + 1, 5, none⟩ = some (.int .u8 h5) := (cell_of_row W4 _ 5 _ _ _ HF4.out.head).trans rfl; have q6 : W4.cell? ⟨w.heap.size + 1, 6, none⟩ = some (.int .u8 h6) := (cell_of_row W4 _ 6 _ _ _ HF4.out.head).trans rfl; have q7 : W4.cell? ⟨w.heap.size + 1, 7, none⟩ = some (.int .u8 h7) := (cell_of_row W4 _ 7 _ _ _ HF4.out.head).trans rfl; have q8 : W4.cell? ⟨w.heap.size + 1, 8, none⟩ = some (.int .u8 h8) := (cell_of_row W4 _ 8 _ _ _ HF4.out.head).trans rfl; have q9 : W4.cell? ⟨w.heap.size + 1, 9, none⟩ = some (.int .u8 h9) := (cell_of_row W4 _ 9 _ _ _ HF4.out.head).trans rfl; have q10 : W4.cell? ⟨w.heap.size + 1, 10, none⟩ = some (.int .u8 h10) := (cell_of_row W4 _ 10 _ _ _ HF4.out.head).trans rfl; have q11 : W4.cell? ⟨w.heap.size + 1, 11, none⟩ = some (.int .u8 h11) := (cell_of_row W4 _ 11 _ _ _ HF4.out.head).trans rfl; have u0 : W4.cell? ⟨w.heap.size + 1 + 1, 0, none⟩ = some (.int .u8 g0) := (cell_of_row W4 _ 0 _ _ _ HF4.out.sum).trans rfl; have u1 : W4.cell? ⟨w.heap.size + 1 + 1, 1, none⟩ = some (.int .u8 g1) := (cell_of_row W4 _ 1 _ _ _ HF4.out.sum).trans rfl; have u2 : W4.cell? ⟨w.heap.size + 1 + 1, 2, none⟩ = some (.int .u8 g2) := (cell_of_row W4 _ 2 _ _ _ HF4.out.sum).trans rfl; have u3 : W4.cell? ⟨w.heap.size + 1 + 1, 3, none⟩ = some (.int .u8 g3) := (cell_of_row W4 _ 3 _ _ _ HF4.out.sum).trans rfl; have s0 : W4.cell? ⟨w.heap.size, 0, none⟩ = some (.int .i64 0) := (cell_of_row W4 _ 0 _ _ _ HF4.out.res).trans rfl; have k0 : W4.cell? ⟨w.heap.size + 3, 0, none⟩ = some (.int .i64 h5) := (cell_of_row W4 _ 0 _ _ _ HF4.out.cart).trans rfl; have s1 : W4.cell? ⟨w.heap.size, 1, none⟩ = some (.int .i64 0) := (cell_of_row W4 _ 1 _ _ _ HF4.out.res).trans rfl; have k1 : W4.cell? ⟨w.heap.size + 3, 1, none⟩ = some (.int .i64 h6) := (cell_of_row W4 _ 1 _ _ _ HF4.out.cart).trans rfl; have s2 : W4.cell? ⟨w.heap.size, 2, none⟩ = some (.int .i64 0) := (cell_of_row W4 _ 2 _ _ _ HF4.out.res).trans rfl; have k2 : W4.cell? ⟨w.heap.size + 3, 2, none⟩ = some (.int .i64 h7) := (cell_of_row W4 _ 2 _ _ _ HF4.out.cart).trans rfl; have s3 : W4.cell? ⟨w.heap.size, 3, none⟩ = some (.int .i64 0) := (cell_of_row W4 _ 3 _ _ _ HF4.out.res).trans rfl; have k3 : W4.cell? ⟨w.heap.size + 3, 3, none⟩ = some (.int .i64 h8) := (cell_of_row W4 _ 3 _ _ _ HF4.out.cart).trans rfl; have s4 : W4.cell? ⟨w.heap.size, 4, none⟩ = some (.int .i64 0) := (cell_of_row W4 _ 4 _ _ _ HF4.out.res).trans rfl; have k4 : W4.cell? ⟨w.heap.size + 3, 4, none⟩ = some (.int .i64 h9) := (cell_of_row W4 _ 4 _ _ _ HF4.out.cart).trans rfl; have s5 : W4.cell? ⟨w.heap.size, 5, none⟩ = some (.slice none 0 0) := (cell_of_row W4 _ 5 _ _ _ HF4.out.res).trans rfl; have k5 : W4.cell? ⟨w.heap.size + 3, 5, none⟩ = some (.slice none 0 0) := (cell_of_row W4 _ 5 _ _ _ HF4.out.cart).trans rfl; have fz : ∀ j, W4.frozen? ⟨w.heap.size, j, none⟩ = false := fun j => (by simp [World.frozen?, HF4.out.res]); have fk : ∀ j, W4.frozen? ⟨w.heap.size + 3, j, none⟩ = false := fun j => (by simp [World.frozen?, HF4.out.cart])) | (go_at_call 21; (with_reducible refine (long_walk h5 h6 h7 h8 h9 b5 _).mono ?_); rintro e W5 ⟨rfl, hd⟩; have HF5 := Aside0.mk (HF4.out.below hd); clear hd HF4; clear q0 q1 q2 q3 q4 q5 q6 q7 q8 q9 q10 q11 u0 u1 u2 u3 s0 k0 s1 k1 s2 k2 s3 k3 s4 k4 s5 k5 fz fk; have q0 : W5.cell? ⟨w.heap.size + 1, 0, none⟩ = some (.int .u8 h0) := (cell_of_row W5 _ 0 _ _ _ HF5.out.head).trans rfl; have q1 : W5.cell? ⟨w.heap.size + 1, 1, none⟩ = some (.int .u8 h1) := (cell_of_row W5 _ 1 _ _ _ HF5.out.head).trans rfl; have q2 : W5.cell? ⟨w.heap.size + 1, 2, none⟩ = some (.int .u8 h2) := (cell_of_row W5 _ 2 _ _ _ HF5.out.head).trans rfl; have q3 : W5.cell? ⟨w.heap.size + 1, 3, none⟩ = some (.int .u8 h3) := (cell_of_row W5 _ 3 _ _ _ HF5.out.head).trans rfl; have q4 : W5.cell? ⟨w.heap.size + 1, 4, none⟩ = some (.int .u8 h4) := (cell_of_row W5 _ 4 _ _ _ HF5.out.head).trans rfl; have q5 : W5.cell? ⟨w.heap.size + 1, 5, none⟩ = some (.int .u8 h5) := (cell_of_row W5 _ 5 _ _ _ HF5.out.head).trans rfl; have q6 : W5.cell? ⟨w.heap.size + 1, 6, none⟩ = some (.int .u8 h6) := (cell_of_row W5 _ 6 _ _ _ HF5.out.head).trans rfl; have q7 : W5.cell? ⟨w.heap.size + 1, 7, none⟩ = some (.int .u8 h7) := (cell_of_row W5 _ 7 _ _ _ HF5.out.head).trans rfl; have q8 : W5.cell? ⟨w.heap.size + 1, 8, none⟩ = some (.int .u8 h8) := (cell_of_row W5 _ 8 _ _ _ HF5.out.head).trans rfl; have q9 : W5.cell? ⟨w.heap.size + 1, 9, none⟩ = some (.int .u8 h9) := (cell_of_row W5 _ 9 _ _ _ HF5.out.head).trans rfl; have q10 : W5.cell? ⟨w.heap.size + 1, 10, none⟩ = some (.int .u8 h10) := (cell_of_row W5 _ 10 _ _ _ HF5.out.head).trans rfl; have q11 : W5.cell? ⟨w.heap.size + 1, 11, none⟩ = some (.int .u8 h11) := (cell_of_row W5 _ 11 _ _ _ HF5.out.head).trans rfl; have u0 : W5.cell? ⟨w.heap.size + 1 + 1, 0, none⟩ = some (.int .u8 g0) := (cell_of_row W5 _ 0 _ _ _ HF5.out.sum).trans rfl; have u1 : W5.cell? ⟨w.heap.size + 1 + 1, 1, none⟩ = some (.int .u8 g1) := (cell_of_row W5 _ 1 _ _ _ HF5.out.sum).trans rfl; have u2 : W5.cell? ⟨w.heap.size + 1 + 1, 2, none⟩ = some (.int .u8 g2) := (cell_of_row W5 _ 2 _ _ _ HF5.out.sum).trans rfl; have u3 : W5.cell? ⟨w.heap.size + 1 + 1, 3, none⟩ = some (.int .u8 g3) := (cell_of_row W5 _ 3 _ _ _ HF5.out.sum).trans rfl; have s0 : W5.cell? ⟨w.heap.size, 0, none⟩ = some (.int .i64 0) := (cell_of_row W5 _ 0 _ _ _ HF5.out.res).trans rfl; have k0 : W5.cell? ⟨w.heap.size + 3, 0, none⟩ = some (.int .i64 h5) := (cell_of_row W5 _ 0 _ _ _ HF5.out.cart).trans rfl; have s1 : W5.cell? ⟨w.heap.size, 1, none⟩ = some (.int .i64 0) := (cell_of_row W5 _ 1 _ _ _ HF5.out.res).trans rfl; have k1 : W5.cell? ⟨w.heap.size + 3, 1, none⟩ = some (.int .i64 h6) := (cell_of_row W5 _ 1 _ _ _ HF5.out.cart).trans rfl; have s2 : W5.cell? ⟨w.heap.size, 2, none⟩ = some (.int .i64 0) := (cell_of_row W5 _ 2 _ _ _ HF5.out.res).trans rfl; have k2 : W5.cell? ⟨w.heap.size + 3, 2, none⟩ = some (.int .i64 h7) := (cell_of_row W5 _ 2 _ _ _ HF5.out.cart).trans rfl; have s3 : W5.cell? ⟨w.heap.size, 3, none⟩ = some (.int .i64 0) := (cell_of_row W5 _ 3 _ _ _ HF5.out.res).trans rfl; have k3 : W5.cell? ⟨w.heap.size + 3, 3, none⟩ = some (.int .i64 h8) := (cell_of_row W5 _ 3 _ _ _ HF5.out.cart).trans rfl; have s4 : W5.cell? ⟨w.heap.size, 4, none⟩ = some (.int .i64 0) := (cell_of_row W5 _ 4 _ _ _ HF5.out.res).trans rfl; have k4 : W5.cell? ⟨w.heap.size + 3, 4, none⟩ = some (.int .i64 h9) := (cell_of_row W5 _ 4 _ _ _ HF5.out.cart).trans rfl; have s5 : W5.cell? ⟨w.heap.size, 5, none⟩ = some (.slice none 0 0) := (cell_of_row W5 _ 5 _ _ _ HF5.out.res).trans rfl; have k5 : W5.cell? ⟨w.heap.size + 3, 5, none⟩ = some (.slice none 0 0) := (cell_of_row W5 _ 5 _ _ _ HF5.out.cart).trans rfl; have fz : ∀ j, W5.frozen? ⟨w.heap.size, j, none⟩ = false := fun j => (by simp [World.frozen?, HF5.out.res]); have fk : ∀ j, W5.frozen? ⟨w.heap.size + 3, j, none⟩ = false := fun j => (by simp [World.frozen?, HF5.out.cart])) | (go_at_call 21; (with_reducible refine (long_walk h5 h6 h7 h8 h9 b5 _).mono ?_); rintro e W6 ⟨rfl, hd⟩; have HF6 := Aside0.mk (HF5.out.below hd); clear hd HF5; clear q0 q1 q2 q3 q4 q5 q6 q7 q8 q9 q10 q11 u0 u1 u2 u3 s0 k0 s1 k1 s2 k2 s3 k3 s4 k4 s5 k5 fz fk; have q0 : W6.cell? ⟨w.heap.size + 1, 0, none⟩ = some (.int .u8 h0) := (cell_of_row W6 _ 0 _ _ _ HF6.out.head).trans rfl; have q1 : W6.cell? ⟨w.heap.size + 1, 1, none⟩ = some (.int .u8 h1) := (cell_of_row W6 _ 1 _ _ _ HF6.out.head).trans rfl; have q2 : W6.cell? ⟨w.heap.size + 1, 2, none⟩ = some (.int .u8 h2) := (cell_of_row W6 _ 2 _ _ _ HF6.out.head).trans rfl; have q3 : W6.cell? ⟨w.heap.size + 1, 3, none⟩ = some (.int .u8 h3) := (cell_of_row W6 _ 3 _ _ _ HF6.out.head).trans rfl; have q4 : W6.cell? ⟨w.heap.size + 1, 4, none⟩ = some (.int .u8 h4) := (cell_of_row W6 _ 4 _ _ _ HF6.out.head).trans rfl; have q5 : W6.cell? ⟨w.heap.size + 1, 5, none⟩ = some (.int .u8 h5) := (cell_of_row W6 _ 5 _ _ _ HF6.out.head).trans rfl; have q6 : W6.cell? ⟨w.heap.size + 1, 6, none⟩ = some (.int .u8 h6) := (cell_of_row W6 _ 6 _ _ _ HF6.out.head).trans rfl; have q7 : W6.cell? ⟨w.heap.size + 1, 7, none⟩ = some (.int .u8 h7) := (cell_of_row W6 _ 7 _ _ _ HF6.out.head).trans rfl; have q8 : W6.cell? ⟨w.heap.size + 1, 8, none⟩ = some (.int .u8 h8) := (cell_of_row W6 _ 8 _ _ _ HF6.out.head).trans rfl; have q9 : W6.cell? ⟨w.heap.size + 1, 9, none⟩ = some (.int .u8 h9) := (cell_of_row W6 _ 9 _ _ _ HF6.out.head).trans rfl; have q10 : W6.cell? ⟨w.heap.size + 1, 10, none⟩ = some (.int .u8 h10) := (cell_of_row W6 _ 10 _ _ _ HF6.out.head).trans rfl; have q11 : W6.cell? ⟨w.heap.size + 1, 11, none⟩ = some (.int .u8 h11) := (cell_of_row W6 _ 11 _ _ _ HF6.out.head).trans rfl; have u0 : W6.cell? ⟨w.heap.size + 1 + 1, 0, none⟩ = some (.int .u8 g0) := (cell_of_row W6 _ 0 _ _ _ HF6.out.sum).trans rfl; have u1 : W6.cell? ⟨w.heap.size + 1 + 1, 1, none⟩ = some (.int .u8 g1) := (cell_of_row W6 _ 1 _ _ _ HF6.out.sum).trans rfl; have u2 : W6.cell? ⟨w.heap.size + 1 + 1, 2, none⟩ = some (.int .u8 g2) := (cell_of_row W6 _ 2 _ _ _ HF6.out.sum).trans rfl; have u3 : W6.cell? ⟨w.heap.size + 1 + 1, 3, none⟩ = some (.int .u8 g3) := (cell_of_row W6 _ 3 _ _ _ HF6.out.sum).trans rfl; have s0 : W6.cell? ⟨w.heap.size, 0, none⟩ = some (.int .i64 0) := (cell_of_row W6 _ 0 _ _ _ HF6.out.res).trans rfl; have k0 : W6.cell? ⟨w.heap.size + 3, 0, none⟩ = some (.int .i64 h5) := (cell_of_row W6 _ 0 _ _ _ HF6.out.cart).trans rfl; have s1 : W6.cell? ⟨w.heap.size, 1, none⟩ = some (.int .i64 0) := (cell_of_row W6 _ 1 _ _ _ HF6.out.res).trans rfl; have k1 : W6.cell? ⟨w.heap.size + 3, 1, none⟩ = some (.int .i64 h6) := (cell_of_row W6 _ 1 _ _ _ HF6.out.cart).trans rfl; have s2 : W6.cell? ⟨w.heap.size, 2, none⟩ = some (.int .i64 0) := (cell_of_row W6 _ 2 _ _ _ HF6.out.res).trans rfl; have k2 : W6.cell? ⟨w.heap.size + 3, 2, none⟩ = some (.int .i64 h7) := (cell_of_row W6 _ 2 _ _ _ HF6.out.cart).trans rfl; have s3 : W6.cell? ⟨w.heap.size, 3, none⟩ = some (.int .i64 0) := (cell_of_row W6 _ 3 _ _ _ HF6.out.res).trans rfl; have k3 : W6.cell? ⟨w.heap.size + 3, 3, none⟩ = some (.int .i64 h8) := (cell_of_row W6 _ 3 _ _ _ HF6.out.cart).trans rfl; have s4 : W6.cell? ⟨w.heap.size, 4, none⟩ = some (.int .i64 0) := (cell_of_row W6 _ 4 _ _ _ HF6.out.res).trans rfl; have k4 : W6.cell? ⟨w.heap.size + 3, 4, none⟩ = some (.int .i64 h9) := (cell_of_row W6 _ 4 _ _ _ HF6.out.cart).trans rfl; have s5 : W6.cell? ⟨w.heap.size, 5, none⟩ = some (.slice none 0 0) := (cell_of_row W6 _ 5 _ _ _ HF6.out.res).trans rfl; have k5 : W6.cell? ⟨w.heap.size + 3, 5, none⟩ = some (.slice none 0 0) := (cell_of_row W6 _ 5 _ _ _ HF6.out.cart).trans rfl; have fz : ∀ j, W6.frozen? ⟨w.heap.size, j, none⟩ = false := fun j => (by simp [World.frozen?, HF6.out.res]); have fk : ∀ j, W6.frozen? ⟨w.heap.size + 3, j, none⟩ = false := fun j => (by simp [World.frozen?, HF6.out.cart])))
                generalize hW3 : World.setCell _ ⟨w.heap.size, 5, none⟩ _ = Wz
                obtain ⟨z, kb, ks⟩ := four_store HF6.out _ _ _ _ _ _ Wz hW3
                clear hW3
                have r0 : Wz.cell? ⟨w.heap.size, 0, none⟩ = some (.int .i64 0) := (cell_of_row Wz _ 0 _ _ _ z).trans rfl
                have r1 : Wz.cell? ⟨w.heap.size, 1, none⟩ = some (.int .i64 0) := (cell_of_row Wz _ 1 _ _ _ z).trans rfl
                have r2 : Wz.cell? ⟨w.heap.size, 2, none⟩ = some (.int .i64 0) := (cell_of_row Wz _ 2 _ _ _ z).trans rfl
                have r3 : Wz.cell? ⟨w.heap.size, 3, none⟩ = some (.int .i64 0) := (cell_of_row Wz _ 3 _ _ _ z).trans rfl
                have r4 : Wz.cell? ⟨w.heap.size, 4, none⟩ = some (.int .i64 0) := (cell_of_row Wz _ 4 _ _ _ z).trans rfl
                have r5 : Wz.cell? ⟨w.heap.size, 5, none⟩ = some (.slice none 0 0) := (cell_of_row Wz _ 5 _ _ _ z).trans rfl
                have hp : pres h0 h1 h2 h3 h4 h5 h6 h7 h8 h9 h10 h11 g0 g1 g2 g3 rom = (0, 0, 0, 0, 0, [], 14) := by unfold pres; rw [if_neg (by rw [hM]; decide), if_neg (by rw [hV]; decide), if_neg (by rw [hR]; decide), if_neg (by rw [hX]; decide), if_neg (by rw [hY]; decide), if_neg (by omega), if_pos hT]
                rw [hp]
                refine bodyPost_ret (v := .tuple #[.agg #[.int .i64 0, .int .i64 0, .int .i64 0, .int .i64 0, .int .i64 0, .slice none 0 0], .int .i64 14]) ?_ rfl ⟨_, rfl, Kd.R_nil _ _ _ _ _, kb⟩
                simp [results, Try.results9, go_sem, r0, r1, r2, r3, r4, r5]
              · go_upto_region 19 with (first | (go_at_call 20; (with_reducible refine (right_walk h5 h6 h7 h8 h9 _).mono ?_); rintro e W4 ⟨rfl, hd⟩; have HF4 := Aside0.mk (HF.out.below hd); clear hd HF; clear q0 q1 q2 q3 q4 q5 q6 q7 q8 q9 q10 q11 u0 u1 u2 u3 s0 k0 s1 k1 s2 k2 s3 k3 s4 k4 s5 k5 fz fk; have q0 : W4.cell? ⟨w.heap.size + 1, 0, none⟩ = some (.int .u8 h0) := (cell_of_row W4 _ 0 _ _ _ HF4.out.head).trans rfl; have q1 : W4.cell? ⟨w.heap.size + 1, 1, none⟩ = some (.int .u8 h1) := (cell_of_row W4 _ 1 _ _ _ HF4.out.head).trans rfl; have q2 : W4.cell? ⟨w.heap.size + 1, 2, none⟩ = some (.int .u8 h2) := (cell_of_row W4 _ 2 _ _ _ HF4.out.head).trans rfl; have q3 : W4.cell? ⟨w.heap.size + 1, 3, none⟩ = some (.int .u8 h3) := (cell_of_row W4 _ 3 _ _ _ HF4.out.head).trans rfl; have q4 : W4.cell? ⟨w.heap.size + 1, 4, none⟩ = some (.int .u8 h4) := (cell_of_row W4 _ 4 _ _ _ HF4.out.head).trans rfl; have q5 : W4.cell? ⟨w.heap.size + 1, 5, none⟩ = some (.int .u8 h5) := (cell_of_row W4 _ 5 _ _ _ HF4.out.head).trans rfl; have q6 : W4.cell? ⟨w.heap.size + 1, 6, none⟩ = some (.int .u8 h6) := (cell_of_row W4 _ 6 _ _ _ HF4.out.head).trans rfl; have q7 : W4.cell? ⟨w.heap.size + 1, 7, none⟩ = some (.int .u8 h7) := (cell_of_row W4 _ 7 _ _ _ HF4.out.head).trans rfl; have q8 : W4.cell? ⟨w.heap.size + 1, 8, none⟩ = some (.int .u8 h8) := (cell_of_row W4 _ 8 _ _ _ HF4.out.head).trans rfl; have q9 : W4.cell? ⟨w.heap.size + 1, 9, none⟩ = some (.int .u8 h9) := (cell_of_row W4 _ 9 _ _ _ HF4.out.head).trans rfl; have q10 : W4.cell? ⟨w.heap.size + 1, 10, none⟩ = some (.int .u8 h10) := (cell_of_row W4 _ 10 _ _ _ HF4.out.head).trans rfl; have q11 : W4.cell? ⟨w.heap.size + 1, 11, none⟩ = some (.int .u8 h11) := (cell_of_row W4 _ 11 _ _ _ HF4.out.head).trans rfl; have u0 : W4.cell? ⟨w.heap.size + 1 + 1, 0, none⟩ = some (.int .u8 g0) := (cell_of_row W4 _ 0 _ _ _ HF4.out.sum).trans rfl; have u1 : W4.cell? ⟨w.heap.size + 1 + 1, 1, none⟩ = some (.int .u8 g1) := (cell_of_row W4 _ 1 _ _ _ HF4.out.sum).trans rfl; have u2 : W4.cell? ⟨w.heap.size + 1 + 1, 2, none⟩ = some (.int .u8 g2) := (cell_of_row W4 _ 2 _ _ _ HF4.out.sum).trans rfl; have u3 : W4.cell? ⟨w.heap.size + 1 + 1, 3, none⟩ = some (.int .u8 g3) := (cell_of_row W4 _ 3 _ _ _ HF4.out.sum).trans rfl; have s0 : W4.cell? ⟨w.heap.size, 0, none⟩ = some (.int .i64 0) := (cell_of_row W4 _ 0 _ _ _ HF4.out.res).trans rfl; have k0 : W4.cell? ⟨w.heap.size + 3, 0, none⟩ = some (.int .i64 h5) := (cell_of_row W4 _ 0 _ _ _ HF4.out.cart).trans rfl; have s1 : W4.cell? ⟨w.heap.size, 1, none⟩ = some (.int .i64 0) := (cell_of_row W4 _ 1 _ _ _ HF4.out.res).trans rfl; have k1 : W4.cell? ⟨w.heap.size + 3, 1, none⟩ = some (.int .i64 h6) := (cell_of_row W4 _ 1 _ _ _ HF4.out.cart).trans rfl; have s2 : W4.cell? ⟨w.heap.size, 2, none⟩ = some (.int .i64 0) := (cell_of_row W4 _ 2 _ _ _ HF4.out.res).trans rfl; have k2 : W4.cell? ⟨w.heap.size + 3, 2, none⟩ = some (.int .i64 h7) := (cell_of_row W4 _ 2 _ _ _ HF4.out.cart).trans rfl; have s3 : W4.cell? ⟨w.heap.size, 3, none⟩ = some (.int .i64 0) := (cell_of_row W4 _ 3 _ _ _ HF4.out.res).trans rfl; have k3 : W4.cell? ⟨w.heap.size + 3, 3, none⟩ = some (.int .i64 h8) := (cell_of_row W4 _ 3 _ _ _ HF4.out.cart).trans rfl; have s4 : W4.cell? ⟨w.heap.size, 4, none⟩ = some (.int .i64 0) := (cell_of_row W4 _ 4 _ _ _ HF4.out.res).trans rfl; have k4 : W4.cell? ⟨w.heap.size + 3, 4, none⟩ = some (.int .i64 h9) := (cell_of_row W4 _ 4 _ _ _ HF4.out.cart).trans rfl; have s5 : W4.cell? ⟨w.heap.size, 5, none⟩ = some (.slice none 0 0) := (cell_of_row W4 _ 5 _ _ _ HF4.out.res).trans rfl; have k5 : W4.cell? ⟨w.heap.size + 3, 5, none⟩ = some (.slice none 0 0) := (cell_of_row W4 _ 5 _ _ _ HF4.out.cart).trans rfl; have fz : ∀ j, W4.frozen? ⟨w.heap.size, j, none⟩ = false := fun j => (by simp [World.frozen?, HF4.out.res]); have fk : ∀ j, W4.frozen? ⟨w.heap.size + 3, j, none⟩ = false := fun j => (by simp [World.frozen?, HF4.out.cart])) | (go_at_call 21; (with_reducible refine (long_walk h5 h6 h7 h8 h9 b5 _).mono ?_); rintro e W5 ⟨rfl, hd⟩; have HF5 := Aside0.mk (HF4.out.below hd); clear hd HF4; clear q0 q1 q2 q3 q4 q5 q6 q7 q8 q9 q10 q11 u0 u1 u2 u3 s0 k0 s1 k1 s2 k2 s3 k3 s4 k4 s5 k5 fz fk; have q0 : W5.cell? ⟨w.heap.size + 1, 0, none⟩ = some (.int .u8 h0) := (cell_of_row W5 _ 0 _ _ _ HF5.out.head).trans rfl; have q1 : W5.cell? ⟨w.heap.size + 1, 1, none⟩ = some (.int .u8 h1) := (cell_of_row W5 _ 1 _ _ _ HF5.out.head).trans rfl; have q2 : W5.cell? ⟨w.heap.size + 1, 2, none⟩ = some (.int .u8 h2) := (cell_of_row W5 _ 2 _ _ _ HF5.out.head).trans rfl; have q3 : W5.cell? ⟨w.heap.size + 1, 3, none⟩ = some (.int .u8 h3) := (cell_of_row W5 _ 3 _ _ _ HF5.out.head).trans rfl; have q4 : W5.cell? ⟨w.heap.size + 1, 4, none⟩ = some (.int .u8 h4) := (cell_of_row W5 _ 4 _ _ _ HF5.out.head).trans rfl; have q5 : W5.cell? ⟨w.heap.size + 1, 5, none⟩ = some (.int .u8 h5) := (cell_of_row W5 _ 5 _ _ _ HF5.out.head).trans rfl; have q6 : W5.cell? ⟨w.heap.size + 1, 6, none⟩ = some (.int .u8 h6) := (cell_of_row W5 _ 6 _ _ _ HF5.out.head).trans rfl; have q7 : W5.cell? ⟨w.heap.size + 1, 7, none⟩ = some (.int .u8 h7) := (cell_of_row W5 _ 7 _ _ _ HF5.out.head).trans rfl; have q8 : W5.cell? ⟨w.heap.size + 1, 8, none⟩ = some (.int .u8 h8) := (cell_of_row W5 _ 8 _ _ _ HF5.out.head).trans rfl; have q9 : W5.cell? ⟨w.heap.size + 1, 9, none⟩ = some (.int .u8 h9) := (cell_of_row W5 _ 9 _ _ _ HF5.out.head).trans rfl; have q10 : W5.cell? ⟨w.heap.size + 1, 10, none⟩ = some (.int .u8 h10) := (cell_of_row W5 _ 10 _ _ _ HF5.out.head).trans rfl; have q11 : W5.cell? ⟨w.heap.size + 1, 11, none⟩ = some (.int .u8 h11) := (cell_of_row W5 _ 11 _ _ _ HF5.out.head).trans rfl; have u0 : W5.cell? ⟨w.heap.size + 1 + 1, 0, none⟩ = some (.int .u8 g0) := (cell_of_row W5 _ 0 _ _ _ HF5.out.sum).trans rfl; have u1 : W5.cell? ⟨w.heap.size + 1 + 1, 1, none⟩ = some (.int .u8 g1) := (cell_of_row W5 _ 1 _ _ _ HF5.out.sum).trans rfl; have u2 : W5.cell? ⟨w.heap.size + 1 + 1, 2, none⟩ = some (.int .u8 g2) := (cell_of_row W5 _ 2 _ _ _ HF5.out.sum).trans rfl; have u3 : W5.cell? ⟨w.heap.size + 1 + 1, 3, none⟩ = some (.int .u8 g3) := (cell_of_row W5 _ 3 _ _ _ HF5.out.sum).trans rfl; have s0 : W5.cell? ⟨w.heap.size, 0, none⟩ = some (.int .i64 0) := (cell_of_row W5 _ 0 _ _ _ HF5.out.res).trans rfl; have k0 : W5.cell? ⟨w.heap.size + 3, 0, none⟩ = some (.int .i64 h5) := (cell_of_row W5 _ 0 _ _ _ HF5.out.cart).trans rfl; have s1 : W5.cell? ⟨w.heap.size, 1, none⟩ = some (.int .i64 0) := (cell_of_row W5 _ 1 _ _ _ HF5.out.res).trans rfl; have k1 : W5.cell? ⟨w.heap.size + 3, 1, none⟩ = some (.int .i64 h6) := (cell_of_row W5 _ 1 _ _ _ HF5.out.cart).trans rfl; have s2 : W5.cell? ⟨w.heap.size, 2, none⟩ = some (.int .i64 0) := (cell_of_row W5 _ 2 _ _ _ HF5.out.res).trans rfl; have k2 : W5.cell? ⟨w.heap.size + 3, 2, none⟩ = some (.int .i64 h7) := (cell_of_row W5 _ 2 _ _ _ HF5.out.cart).trans rfl; have s3 : W5.cell? ⟨w.heap.size, 3, none⟩ = some (.int .i64 0) := (cell_of_row W5 _ 3 _ _ _ HF5.out.res).trans rfl; have k3 : W5.cell? ⟨w.heap.size + 3, 3, none⟩ = some (.int .i64 h8) := (cell_of_row W5 _ 3 _ _ _ HF5.out.cart).trans rfl; have s4 : W5.cell? ⟨w.heap.size, 4, none⟩ = some (.int .i64 0) := (cell_of_row W5 _ 4 _ _ _ HF5.out.res).trans rfl; have k4 : W5.cell? ⟨w.heap.size + 3, 4, none⟩ = some (.int .i64 h9) := (cell_of_row W5 _ 4 _ _ _ HF5.out.cart).trans rfl; have s5 : W5.cell? ⟨w.heap.size, 5, none⟩ = some (.slice none 0 0) := (cell_of_row W5 _ 5 _ _ _ HF5.out.res).trans rfl; have k5 : W5.cell? ⟨w.heap.size + 3, 5, none⟩ = some (.slice none 0 0) := (cell_of_row W5 _ 5 _ _ _ HF5.out.cart).trans rfl; have fz : ∀ j, W5.frozen? ⟨w.heap.size, j, none⟩ = false := fun j => (by simp [World.frozen?, HF5.out.res]); have fk : ∀ j, W5.frozen? ⟨w.heap.size + 3, j, none⟩ = false := fun j => (by simp [World.frozen?, HF5.out.cart])) | (go_at_call 21; (with_reducible refine (long_walk h5 h6 h7 h8 h9 b5 _).mono ?_); rintro e W6 ⟨rfl, hd⟩; have HF6 := Aside0.mk (HF5.out.below hd); clear hd HF5; clear q0 q1 q2 q3 q4 q5 q6 q7 q8 q9 q10 q11 u0 u1 u2 u3 s0 k0 s1 k1 s2 k2 s3 k3 s4 k4 s5 k5 fz fk; have q0 : W6.cell? ⟨w.heap.size + 1, 0, none⟩ = some (.int .u8 h0) := (cell_of_row W6 _ 0 _ _ _ HF6.out.head).trans rfl; have q1 : W6.cell? ⟨w.heap.size + 1, 1, none⟩ = some (.int .u8 h1) := (cell_of_row W6 _ 1 _ _ _ HF6.out.head).trans rfl; have q2 : W6.cell? ⟨w.heap.size + 1, 2, none⟩ = some (.int .u8 h2) := (cell_of_row W6 _ 2 _ _ _ HF6.out.head).trans rfl; have q3 : W6.cell? ⟨w.heap.size + 1, 3, none⟩ = some (.int .u8 h3) := (cell_of_row W6 _ 3 _ _ _ HF6.out.head).trans rfl; have q4 : W6.cell? ⟨w.heap.size + 1, 4, none⟩ = some (.int .u8 h4) := (cell_of_row W6 _ 4 _ _ _ HF6.out.head).trans rfl; have q5 : W6.cell? ⟨w.heap.size + 1, 5, none⟩ = some (.int .u8 h5) := (cell_of_row W6 _ 5 _ _ _ HF6.out.head).trans rfl; have q6 : W6.cell? ⟨w.heap.size + 1, 6, none⟩ = some (.int .u8 h6) := (cell_of_row W6 _ 6 _ _ _ HF6.out.head).trans rfl; have q7 : W6.cell? ⟨w.heap.size + 1, 7, none⟩ = some (.int .u8 h7) := (cell_of_row W6 _ 7 _ _ _ HF6.out.head).trans rfl; have q8 : W6.cell? ⟨w.heap.size + 1, 8, none⟩ = some (.int .u8 h8) := (cell_of_row W6 _ 8 _ _ _ HF6.out.head).trans rfl; have q9 : W6.cell? ⟨w.heap.size + 1, 9, none⟩ = some (.int .u8 h9) := (cell_of_row W6 _ 9 _ _ _ HF6.out.head).trans rfl; have q10 : W6.cell? ⟨w.heap.size + 1, 10, none⟩ = some (.int .u8 h10) := (cell_of_row W6 _ 10 _ _ _ HF6.out.head).trans rfl; have q11 : W6.cell? ⟨w.heap.size + 1, 11, none⟩ = some (.int .u8 h11) := (cell_of_row W6 _ 11 _ _ _ HF6.out.head).trans rfl; have u0 : W6.cell? ⟨w.heap.size + 1 + 1, 0, none⟩ = some (.int .u8 g0) := (cell_of_row W6 _ 0 _ _ _ HF6.out.sum).trans rfl; have u1 : W6.cell? ⟨w.heap.size + 1 + 1, 1, none⟩ = some (.int .u8 g1) := (cell_of_row W6 _ 1 _ _ _ HF6.out.sum).trans rfl; have u2 : W6.cell? ⟨w.heap.size + 1 + 1, 2, none⟩ = some (.int .u8 g2) := (cell_of_row W6 _ 2 _ _ _ HF6.out.sum).trans rfl; have u3 : W6.cell? ⟨w.heap.size + 1 + 1, 3, none⟩ = some (.int .u8 g3) := (cell_of_row W6 _ 3 _ _ _ HF6.out.sum).trans rfl; have s0 : W6.cell? ⟨w.heap.size, 0, none⟩ = some (.int .i64 0) := (cell_of_row W6 _ 0 _ _ _ HF6.out.res).trans rfl; have k0 : W6.cell? ⟨w.heap.size + 3, 0, none⟩ = some (.int .i64 h5) := (cell_of_row W6 _ 0 _ _ _ HF6.out.cart).trans rfl; have s1 : W6.cell? ⟨w.heap.size, 1, none⟩ = some (.int .i64 0) := (cell_of_row W6 _ 1 _ _ _ HF6.out.res).trans rfl; have k1 : W6.cell? ⟨w.heap.size + 3, 1, none⟩ = some (.int .i64 h6) := (cell_of_row W6 _ 1 _ _ _ HF6.out.cart).trans rfl; have s2 : W6.cell? ⟨w.heap.size, 2, none⟩ = some (.int .i64 0) := (cell_of_row W6 _ 2 _ _ _ HF6.out.res).trans rfl; have k2 : W6.cell? ⟨w.heap.size + 3, 2, none⟩ = some (.int .i64 h7) := (cell_of_row W6 _ 2 _ _ _ HF6.out.cart).trans rfl; have s3 : W6.cell? ⟨w.heap.size, 3, none⟩ = some (.int .i64 0) := (cell_of_row W6 _ 3 _ _ _ HF6.out.res).trans rfl; have k3 : W6.cell? ⟨w.heap.size + 3, 3, none⟩ = some (.int .i64 h8) := (cell_of_row W6 _ 3 _ _ _ HF6.out.cart).trans rfl; have s4 : W6.cell? ⟨w.heap.size, 4, none⟩ = some (.int .i64 0) := (cell_of_row W6 _ 4 _ _ _ HF6.out.res).trans rfl; have k4 : W6.cell? ⟨w.heap.size + 3, 4, none⟩ = some (.int .i64 h9) := (cell_of_row W6 _ 4 _ _ _ HF6.out.cart).trans rfl; have s5 : W6.cell? ⟨w.heap.size, 5, none⟩ = some (.slice none 0 0) := (cell_of_row W6 _ 5 _ _ _ HF6.out.res).trans rfl; have k5 : W6.cell? ⟨w.heap.size + 3, 5, none⟩ = some (.slice none 0 0) := (cell_of_row W6 _ 5 _ _ _ HF6.out.cart).trans rfl; have fz : ∀ j, W6.frozen? ⟨w.heap.size, j, none⟩ = false := fun j => (by simp [World.frozen?, HF6.out.res]); have fk : ∀ j, W6.frozen? ⟨w.heap.size + 3, j, none⟩ = false := fun j => (by simp [World.frozen?, HF6.out.cart])))
                have HRK : Aside0 ((Kd.int .u8).C w A16 rom.length rom) := ⟨Kd.C_of_reads (h1 := fun _ => rfl) HR16.out⟩
                have HCR : Aside0 (rom.length ≤ c0 - 16) := ⟨HC16.out⟩
                have HBS : Hid (Bytes ([h0, h1, h2, h3, h4, h5, h6, h7, h8, h9, h10, h11] ++ rom)) := fun x hx => HBY.out x (by
                  rcases List.mem_append.1 hx with hx | hx
                  · exact List.mem_append_left (g0 :: g1 :: g2 :: g3 :: rom) hx
                  · exact List.mem_append_right ([h0, h1, h2, h3, h4, h5, h6, h7, h8, h9, h10, h11] ++ [g0, g1, g2, g3]) hx)
                clear q0 q1 q2 q3 q4 q5 q6 q7 q8 q9 q10 q11 u0 u1 u2 u3 s0 k0 s1 k1 s2 k2 s3 k3 s4 k4 s5 k5 fz fk
                obtain ⟨s, hs⟩ : ∃ s, sealOf ([h0, h1, h2, h3, h4, h5, h6, h7, h8, h9, h10, h11] ++ rom) = s := ⟨_, rfl⟩
                have hs0 : 0 ≤ s := by rw [← hs]; exact iv_lo _
                have hs1 : s < 4294967296 := by rw [← hs]; exact iv_hi _
                have HSV := Lib.hid hs
                clear hs
                have hg : ∀ x ∈ [g0, g1, g2, g3], 0 ≤ x ∧ x ≤ 255 := fun x hx => HBY.out x (by simp only [List.mem_cons, List.not_mem_nil, or_false] at hx ⊢; rcases hx with rfl | rfl | rfl | rfl <;> simp)
                have heq := fun W => eq4 (a := s % 256) (b := s / 256 % 256) (c := s / 65536 % 256) (d := s / 16777216 % 256) (by omega) (by omega) (by omega) (by omega) (hg g0 (by simp)) (hg g1 (by simp)) (hg g2 (by simp)) (hg g3 (by simp)) W
                have heq2 : ∀ W, (Op.equalIn 10000 49 (.agg #[.int .u8 (s % 256), .int .u8 (s / 256 % 256), .int .u8 (s / 65536 % 256), .int .u8 (s / 16777216 % 256)]) (.agg #[.int .u8 g0, .int .u8 g1, .int .u8 g2, .int .u8 g3])).run Try.prog W = .ok (sealIs s g0 g1 g2 g3) W := heq
                clear heq hg
                have hi48 : (Try.prog.info? 48).map (·.size) = some ([.int .u8 h0, .int .u8 h1, .int .u8 h2, .int .u8 h3, .int .u8 h4, .int .u8 h5, .int .u8 h6, .int .u8 h7, .int .u8 h8, .int .u8 h9, .int .u8 h10, .int .u8 h11] : List Value).length := by kernel_rfl
                have hu48 := Try.underlying48
                have HF7 := Aside0.mk (HF6.out.drew)
                go_region_held3 (fun W : World => W.rangeAt (w.heap.size + 1) 0 [.int .u8 h0, .int .u8 h1, .int .u8 h2, .int .u8 h3, .int .u8 h4, .int .u8 h5, .int .u8 h6, .int .u8 h7, .int .u8 h8, .int .u8 h9, .int .u8 h10, .int .u8 h11] ∧ W.cell? ⟨w.heap.size + 1 + 1, 0, none⟩ = some (.int .u8 g0) ∧ W.cell? ⟨w.heap.size + 1 + 1, 1, none⟩ = some (.int .u8 g1) ∧ W.cell? ⟨w.heap.size + 1 + 1, 2, none⟩ = some (.int .u8 g2) ∧ W.cell? ⟨w.heap.size + 1 + 1, 3, none⟩ = some (.int .u8 g3) ∧ Four w W [h0, h1, h2, h3, h4, h5, h6, h7, h8, h9, h10, h11] [g0, g1, g2, g3] #[.int .i64 h5, .int .i64 h6, .int .i64 h7, .int .i64 h8, .int .i64 h9, .slice none 0 0]) (first | exact four_cells (Four.drew (by assumption)) | exact four_cells (Four.below HF7.out (by assumption)) | exact four_cells HF7.out | exact four_cells HF6.out | exact four_cells (by assumption)) (first | (go_at_call 22; (with_reducible refine (seal_call h0 h1 h2 h3 h4 h5 h6 h7 h8 h9 h10 h11 A16 (c0 - 16) rom _ s HSV.out HBS.out hl (Kd.C_below HRK.out (Four.bel (hs := [h0, h1, h2, h3, h4, h5, h6, h7, h8, h9, h10, h11]) (gs := [g0, g1, g2, g3]) (cs := #[.int .i64 h5, .int .i64 h6, .int .i64 h7, .int .i64 h8, .int .i64 h9, .slice none 0 0]) HF7.out)) HCR.out).mono ?_); rintro e w' ⟨rfl, hd⟩))
                have HF8 := Aside0.mk (HF7.out.below hd)
                have HR8 := Aside0.mk (Kd.C_below HRK.out HF8.out.bel)
                clear hd HF7 HF6
                have q0 : w'.cell? ⟨w.heap.size + 1, 0, none⟩ = some (.int .u8 h0) := (cell_of_row w' _ 0 _ _ _ HF8.out.head).trans rfl
                have q1 : w'.cell? ⟨w.heap.size + 1, 1, none⟩ = some (.int .u8 h1) := (cell_of_row w' _ 1 _ _ _ HF8.out.head).trans rfl
                have q2 : w'.cell? ⟨w.heap.size + 1, 2, none⟩ = some (.int .u8 h2) := (cell_of_row w' _ 2 _ _ _ HF8.out.head).trans rfl
                have q3 : w'.cell? ⟨w.heap.size + 1, 3, none⟩ = some (.int .u8 h3) := (cell_of_row w' _ 3 _ _ _ HF8.out.head).trans rfl
                have q4 : w'.cell? ⟨w.heap.size + 1, 4, none⟩ = some (.int .u8 h4) := (cell_of_row w' _ 4 _ _ _ HF8.out.head).trans rfl
                have q5 : w'.cell? ⟨w.heap.size + 1, 5, none⟩ = some (.int .u8 h5) := (cell_of_row w' _ 5 _ _ _ HF8.out.head).trans rfl
                have q6 : w'.cell? ⟨w.heap.size + 1, 6, none⟩ = some (.int .u8 h6) := (cell_of_row w' _ 6 _ _ _ HF8.out.head).trans rfl
                have q7 : w'.cell? ⟨w.heap.size + 1, 7, none⟩ = some (.int .u8 h7) := (cell_of_row w' _ 7 _ _ _ HF8.out.head).trans rfl
                have q8 : w'.cell? ⟨w.heap.size + 1, 8, none⟩ = some (.int .u8 h8) := (cell_of_row w' _ 8 _ _ _ HF8.out.head).trans rfl
                have q9 : w'.cell? ⟨w.heap.size + 1, 9, none⟩ = some (.int .u8 h9) := (cell_of_row w' _ 9 _ _ _ HF8.out.head).trans rfl
                have q10 : w'.cell? ⟨w.heap.size + 1, 10, none⟩ = some (.int .u8 h10) := (cell_of_row w' _ 10 _ _ _ HF8.out.head).trans rfl
                have q11 : w'.cell? ⟨w.heap.size + 1, 11, none⟩ = some (.int .u8 h11) := (cell_of_row w' _ 11 _ _ _ HF8.out.head).trans rfl
                have u0 : w'.cell? ⟨w.heap.size + 1 + 1, 0, none⟩ = some (.int .u8 g0) := (cell_of_row w' _ 0 _ _ _ HF8.out.sum).trans rfl
                have u1 : w'.cell? ⟨w.heap.size + 1 + 1, 1, none⟩ = some (.int .u8 g1) := (cell_of_row w' _ 1 _ _ _ HF8.out.sum).trans rfl
                have u2 : w'.cell? ⟨w.heap.size + 1 + 1, 2, none⟩ = some (.int .u8 g2) := (cell_of_row w' _ 2 _ _ _ HF8.out.sum).trans rfl
                have u3 : w'.cell? ⟨w.heap.size + 1 + 1, 3, none⟩ = some (.int .u8 g3) := (cell_of_row w' _ 3 _ _ _ HF8.out.sum).trans rfl
                have s0 : w'.cell? ⟨w.heap.size, 0, none⟩ = some (.int .i64 0) := (cell_of_row w' _ 0 _ _ _ HF8.out.res).trans rfl
                have k0 : w'.cell? ⟨w.heap.size + 3, 0, none⟩ = some (.int .i64 h5) := (cell_of_row w' _ 0 _ _ _ HF8.out.cart).trans rfl
                have s1 : w'.cell? ⟨w.heap.size, 1, none⟩ = some (.int .i64 0) := (cell_of_row w' _ 1 _ _ _ HF8.out.res).trans rfl
                have k1 : w'.cell? ⟨w.heap.size + 3, 1, none⟩ = some (.int .i64 h6) := (cell_of_row w' _ 1 _ _ _ HF8.out.cart).trans rfl
                have s2 : w'.cell? ⟨w.heap.size, 2, none⟩ = some (.int .i64 0) := (cell_of_row w' _ 2 _ _ _ HF8.out.res).trans rfl
                have k2 : w'.cell? ⟨w.heap.size + 3, 2, none⟩ = some (.int .i64 h7) := (cell_of_row w' _ 2 _ _ _ HF8.out.cart).trans rfl
                have s3 : w'.cell? ⟨w.heap.size, 3, none⟩ = some (.int .i64 0) := (cell_of_row w' _ 3 _ _ _ HF8.out.res).trans rfl
                have k3 : w'.cell? ⟨w.heap.size + 3, 3, none⟩ = some (.int .i64 h8) := (cell_of_row w' _ 3 _ _ _ HF8.out.cart).trans rfl
                have s4 : w'.cell? ⟨w.heap.size, 4, none⟩ = some (.int .i64 0) := (cell_of_row w' _ 4 _ _ _ HF8.out.res).trans rfl
                have k4 : w'.cell? ⟨w.heap.size + 3, 4, none⟩ = some (.int .i64 h9) := (cell_of_row w' _ 4 _ _ _ HF8.out.cart).trans rfl
                have s5 : w'.cell? ⟨w.heap.size, 5, none⟩ = some (.slice none 0 0) := (cell_of_row w' _ 5 _ _ _ HF8.out.res).trans rfl
                have k5 : w'.cell? ⟨w.heap.size + 3, 5, none⟩ = some (.slice none 0 0) := (cell_of_row w' _ 5 _ _ _ HF8.out.cart).trans rfl
                have fz : ∀ j, w'.frozen? ⟨w.heap.size, j, none⟩ = false := fun j => (by simp [World.frozen?, HF8.out.res])
                have fk : ∀ j, w'.frozen? ⟨w.heap.size + 3, j, none⟩ = false := fun j => (by simp [World.frozen?, HF8.out.cart])
                cases hE : sealIs s g0 g1 g2 g3 with
                | false =>
                  go_wp2_with (fail)
                  generalize hW3 : World.setCell _ ⟨w.heap.size, 5, none⟩ _ = Wz
                  obtain ⟨z, kb, ks⟩ := four_store HF8.out _ _ _ _ _ _ Wz hW3
                  clear hW3
                  have r0 : Wz.cell? ⟨w.heap.size, 0, none⟩ = some (.int .i64 0) := (cell_of_row Wz _ 0 _ _ _ z).trans rfl
                  have r1 : Wz.cell? ⟨w.heap.size, 1, none⟩ = some (.int .i64 0) := (cell_of_row Wz _ 1 _ _ _ z).trans rfl
                  have r2 : Wz.cell? ⟨w.heap.size, 2, none⟩ = some (.int .i64 0) := (cell_of_row Wz _ 2 _ _ _ z).trans rfl
                  have r3 : Wz.cell? ⟨w.heap.size, 3, none⟩ = some (.int .i64 0) := (cell_of_row Wz _ 3 _ _ _ z).trans rfl
                  have r4 : Wz.cell? ⟨w.heap.size, 4, none⟩ = some (.int .i64 0) := (cell_of_row Wz _ 4 _ _ _ z).trans rfl
                  have r5 : Wz.cell? ⟨w.heap.size, 5, none⟩ = some (.slice none 0 0) := (cell_of_row Wz _ 5 _ _ _ z).trans rfl
                  have hp : pres h0 h1 h2 h3 h4 h5 h6 h7 h8 h9 h10 h11 g0 g1 g2 g3 rom = (0, 0, 0, 0, 0, [], 8) := by unfold pres; rw [if_neg (by rw [hM]; decide), if_neg (by rw [hV]; decide), if_neg (by rw [hR]; decide), if_neg (by rw [hX]; decide), if_neg (by rw [hY]; decide), if_neg (by omega), if_neg (by omega), HSV.out, if_neg (by rw [hE]; decide)]
                  rw [hp]
                  refine bodyPost_ret (v := .tuple #[.agg #[.int .i64 0, .int .i64 0, .int .i64 0, .int .i64 0, .int .i64 0, .slice none 0 0], .int .i64 8]) ?_ rfl ⟨_, rfl, Kd.R_nil _ _ _ _ _, kb⟩
                  simp [results, Try.results9, go_sem, r0, r1, r2, r3, r4, r5]
                | true =>
                  have hcl : slices_Clone_byte_byte.f rom = some rom := by unfold slices_Clone_byte_byte.f; rw [if_pos (by omega)]
                  have HCL := Lib.hid hcl
                  clear hcl
                  go_wp2_with (go_at_call 23; (with_reducible refine (slices_Clone_byte_byte.calls A16 (c0 - 16) rom rom _ HR8.out HCR.out HCL.out).mono ?_); rintro e W9 ⟨v9, rfl, hR9, hb9⟩; obtain ⟨A9, c9, rfl⟩ := Kd.R_slice hR9; have hR10 := Kd.R_mono (ok' := fun k => w.heap.size + 3 < k) (Kd.R_bound hR9) (fun k hk => Nat.lt_of_lt_of_le HF8.out.size hk.2.1); have HR9 := Aside0.mk (Kd.R_lower hR10 HF8.out.bel.size); have HF9 := Aside0.mk (HF8.out.below hb9); clear hR9 hR10 hb9 HF8; clear q0 q1 q2 q3 q4 q5 q6 q7 q8 q9 q10 q11 u0 u1 u2 u3 s0 k0 s1 k1 s2 k2 s3 k3 s4 k4 s5 k5 fz fk; have q0 : W9.cell? ⟨w.heap.size + 1, 0, none⟩ = some (.int .u8 h0) := (cell_of_row W9 _ 0 _ _ _ HF9.out.head).trans rfl; have q1 : W9.cell? ⟨w.heap.size + 1, 1, none⟩ = some (.int .u8 h1) := (cell_of_row W9 _ 1 _ _ _ HF9.out.head).trans rfl; have q2 : W9.cell? ⟨w.heap.size + 1, 2, none⟩ = some (.int .u8 h2) := (cell_of_row W9 _ 2 _ _ _ HF9.out.head).trans rfl; have q3 : W9.cell? ⟨w.heap.size + 1, 3, none⟩ = some (.int .u8 h3) := (cell_of_row W9 _ 3 _ _ _ HF9.out.head).trans rfl; have q4 : W9.cell? ⟨w.heap.size + 1, 4, none⟩ = some (.int .u8 h4) := (cell_of_row W9 _ 4 _ _ _ HF9.out.head).trans rfl; have q5 : W9.cell? ⟨w.heap.size + 1, 5, none⟩ = some (.int .u8 h5) := (cell_of_row W9 _ 5 _ _ _ HF9.out.head).trans rfl; have q6 : W9.cell? ⟨w.heap.size + 1, 6, none⟩ = some (.int .u8 h6) := (cell_of_row W9 _ 6 _ _ _ HF9.out.head).trans rfl; have q7 : W9.cell? ⟨w.heap.size + 1, 7, none⟩ = some (.int .u8 h7) := (cell_of_row W9 _ 7 _ _ _ HF9.out.head).trans rfl; have q8 : W9.cell? ⟨w.heap.size + 1, 8, none⟩ = some (.int .u8 h8) := (cell_of_row W9 _ 8 _ _ _ HF9.out.head).trans rfl; have q9 : W9.cell? ⟨w.heap.size + 1, 9, none⟩ = some (.int .u8 h9) := (cell_of_row W9 _ 9 _ _ _ HF9.out.head).trans rfl; have q10 : W9.cell? ⟨w.heap.size + 1, 10, none⟩ = some (.int .u8 h10) := (cell_of_row W9 _ 10 _ _ _ HF9.out.head).trans rfl; have q11 : W9.cell? ⟨w.heap.size + 1, 11, none⟩ = some (.int .u8 h11) := (cell_of_row W9 _ 11 _ _ _ HF9.out.head).trans rfl; have u0 : W9.cell? ⟨w.heap.size + 1 + 1, 0, none⟩ = some (.int .u8 g0) := (cell_of_row W9 _ 0 _ _ _ HF9.out.sum).trans rfl; have u1 : W9.cell? ⟨w.heap.size + 1 + 1, 1, none⟩ = some (.int .u8 g1) := (cell_of_row W9 _ 1 _ _ _ HF9.out.sum).trans rfl; have u2 : W9.cell? ⟨w.heap.size + 1 + 1, 2, none⟩ = some (.int .u8 g2) := (cell_of_row W9 _ 2 _ _ _ HF9.out.sum).trans rfl; have u3 : W9.cell? ⟨w.heap.size + 1 + 1, 3, none⟩ = some (.int .u8 g3) := (cell_of_row W9 _ 3 _ _ _ HF9.out.sum).trans rfl; have s0 : W9.cell? ⟨w.heap.size, 0, none⟩ = some (.int .i64 0) := (cell_of_row W9 _ 0 _ _ _ HF9.out.res).trans rfl; have k0 : W9.cell? ⟨w.heap.size + 3, 0, none⟩ = some (.int .i64 h5) := (cell_of_row W9 _ 0 _ _ _ HF9.out.cart).trans rfl; have s1 : W9.cell? ⟨w.heap.size, 1, none⟩ = some (.int .i64 0) := (cell_of_row W9 _ 1 _ _ _ HF9.out.res).trans rfl; have k1 : W9.cell? ⟨w.heap.size + 3, 1, none⟩ = some (.int .i64 h6) := (cell_of_row W9 _ 1 _ _ _ HF9.out.cart).trans rfl; have s2 : W9.cell? ⟨w.heap.size, 2, none⟩ = some (.int .i64 0) := (cell_of_row W9 _ 2 _ _ _ HF9.out.res).trans rfl; have k2 : W9.cell? ⟨w.heap.size + 3, 2, none⟩ = some (.int .i64 h7) := (cell_of_row W9 _ 2 _ _ _ HF9.out.cart).trans rfl; have s3 : W9.cell? ⟨w.heap.size, 3, none⟩ = some (.int .i64 0) := (cell_of_row W9 _ 3 _ _ _ HF9.out.res).trans rfl; have k3 : W9.cell? ⟨w.heap.size + 3, 3, none⟩ = some (.int .i64 h8) := (cell_of_row W9 _ 3 _ _ _ HF9.out.cart).trans rfl; have s4 : W9.cell? ⟨w.heap.size, 4, none⟩ = some (.int .i64 0) := (cell_of_row W9 _ 4 _ _ _ HF9.out.res).trans rfl; have k4 : W9.cell? ⟨w.heap.size + 3, 4, none⟩ = some (.int .i64 h9) := (cell_of_row W9 _ 4 _ _ _ HF9.out.cart).trans rfl; have s5 : W9.cell? ⟨w.heap.size, 5, none⟩ = some (.slice none 0 0) := (cell_of_row W9 _ 5 _ _ _ HF9.out.res).trans rfl; have k5 : W9.cell? ⟨w.heap.size + 3, 5, none⟩ = some (.slice none 0 0) := (cell_of_row W9 _ 5 _ _ _ HF9.out.cart).trans rfl; have fz : ∀ j, W9.frozen? ⟨w.heap.size, j, none⟩ = false := fun j => (by simp [World.frozen?, HF9.out.res]); have fk : ∀ j, W9.frozen? ⟨w.heap.size + 3, j, none⟩ = false := fun j => (by simp [World.frozen?, HF9.out.cart]))
                  have HF10 := Aside0.mk (HF9.out.setCart 5 (.slice A9 rom.length c9))
                  generalize hW3 : World.setCell _ ⟨w.heap.size, 5, none⟩ _ = Wz
                  obtain ⟨z, kb, ks⟩ := four_store HF10.out _ _ _ _ _ _ Wz hW3
                  have hkeep : ∀ k, w.heap.size + 3 < k → Wz.heap[k]? = W9.heap[k]? := by
                    intro k hk
                    rw [← hW3]
                    repeat rw [Below.heap_setCell _ _ _ _ (by show k ≠ _; simp; omega)]
                  have hRz := Kd.R_mono (Kd.R_move HR9.out hkeep) (fun k _ => trivial)
                  clear hW3
                  have r0 : Wz.cell? ⟨w.heap.size, 0, none⟩ = some (.int .i64 h5) := (cell_of_row Wz _ 0 _ _ _ z).trans rfl
                  have r1 : Wz.cell? ⟨w.heap.size, 1, none⟩ = some (.int .i64 h6) := (cell_of_row Wz _ 1 _ _ _ z).trans rfl
                  have r2 : Wz.cell? ⟨w.heap.size, 2, none⟩ = some (.int .i64 h7) := (cell_of_row Wz _ 2 _ _ _ z).trans rfl
                  have r3 : Wz.cell? ⟨w.heap.size, 3, none⟩ = some (.int .i64 h8) := (cell_of_row Wz _ 3 _ _ _ z).trans rfl
                  have r4 : Wz.cell? ⟨w.heap.size, 4, none⟩ = some (.int .i64 h9) := (cell_of_row Wz _ 4 _ _ _ z).trans rfl
                  have r5 : Wz.cell? ⟨w.heap.size, 5, none⟩ = some (.slice A9 rom.length c9) := (cell_of_row Wz _ 5 _ _ _ z).trans rfl
                  have hp : pres h0 h1 h2 h3 h4 h5 h6 h7 h8 h9 h10 h11 g0 g1 g2 g3 rom = (h5, h6, h7, h8, h9, rom, 0) := by unfold pres; rw [if_neg (by rw [hM]; decide), if_neg (by rw [hV]; decide), if_neg (by rw [hR]; decide), if_neg (by rw [hX]; decide), if_neg (by rw [hY]; decide), if_neg (by omega), if_neg (by omega), HSV.out, if_pos hE]
                  rw [hp]
                  refine bodyPost_ret (v := .tuple #[.agg #[.int .i64 h5, .int .i64 h6, .int .i64 h7, .int .i64 h8, .int .i64 h9, .slice A9 rom.length c9], .int .i64 0]) ?_ rfl ⟨_, rfl, hRz, kb⟩
                  simp [results, Try.results9, go_sem, r0, r1, r2, r3, r4, r5]

end Go.Proofs.Ytoiiphlhdnlniaa.Given
