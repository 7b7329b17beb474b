/- Each piece is memory of its own: the walk of ImageOwn. -/
import Derived.Test.YtmlldfkmmmncgaaDoorAx3
import Derived.Test.YtmlldfkmmmncgaaDoorAx2
import Derived.ArgAppend
import Derived.Test.YtmlldfkmmmncgaaDoorPieces
import Derived.Test.YtmlldfkmmmncgaaDoorFactory
import Derived.Test.YtmlldfkmmmncgaaDoorPureImageNeeds
import Derived.Test.YtmlldfkmmmncgaaDoorPureImageBack
set_option linter.unusedVariables false
set_option linter.unusedSimpArgs false
namespace Go.Proofs.YtmlldfkmmmncgaaDoor.Own
open Go.RowKit Go.Proofs.YtmlldfkmmmncgaaDoor.All Go.Proofs.YtmlldfkmmmncgaaDoor.Given Go.Proofs.YtmlldfkmmmncgaaDoorW.PrintWords Go.Proofs.YtmlldfkmmmncgaaDoorW.PrintLast Go.Proofs.YtmlldfkmmmncgaaDoorW.PrintMore

theorem info25 : (Tryd.prog.info? 5).map (fun i => (i.zero, i.size, i.bytes)) = some (some (.int .u8 0), 1, 1) := by kernel_rfl
/-- Bytes that lie in a block. -/
def Lies (w : World) (g o : Nat) (xs : List Int) : Prop := ∃ cs, w.heap[g]? = some (.cells cs 5 (0, 0)) ∧ ∀ i x, xs[i]? = some x → cs[o + i]? = some (.int .u8 x)
theorem Lies.mono {w w' : World} {g o : Nat} {xs : List Int} (h : Lies w g o xs) (he : w'.heap[g]? = w.heap[g]?) : Lies w' g o xs := by
  obtain ⟨cs, h1, h2⟩ := h
  exact ⟨cs, he.trans h1, h2⟩
theorem Lies.lt {w : World} {g o : Nat} {xs : List Int} (h : Lies w g o xs) : g < w.heap.size := by
  obtain ⟨cs, h1, _⟩ := h
  exact (Array.getElem?_eq_some_iff.1 h1).1
theorem Lies.C {w : World} {g o : Nat} {xs : List Int} (h : Lies w g o xs) (hl : xs.length ≤ 100000) : (Kd.int .u8).C w (some ⟨g, o, none⟩) xs.length xs := by
  obtain ⟨cs, h1, h2⟩ := h
  refine ⟨rfl, by omega, fun _ => ⟨_, rfl, fun j p hj => ⟨[.int .u8 p], rfl, rfl, fun k u hk => ?_⟩⟩⟩
  have hk0 : k = 0 := by have := (List.getElem?_eq_some_iff.1 hk).1; simp at this; exact this
  subst hk0
  obtain rfl : Value.int .u8 p = u := by simpa using hk
  rw [add_off]
  show w.cell? ⟨g, o + (j * 1 + 0), none⟩ = _
  rw [Nat.mul_one, Nat.add_zero]
  simp [World.cell?, h1, h2 j p hj]
/-- A list of pieces: their slice lies in block a, they in block g. -/
def Piled (w : World) (a g s k : Nat) : Prop := ∃ cs, w.heap[a]? = some (.cells cs 25 (0, 0)) ∧ ∀ i, i < k → cs[i]? = some (pv g s i)
theorem Piled.mono {w w' : World} {a g s k : Nat} (h : Piled w a g s k) (he : w'.heap[a]? = w.heap[a]?) : Piled w' a g s k := by
  obtain ⟨cs, h1, h2⟩ := h
  exact ⟨cs, he.trans h1, h2⟩
theorem Piled.lt {w : World} {a g s k : Nat} (h : Piled w a g s k) : a < w.heap.size := by
  obtain ⟨cs, h1, _⟩ := h
  exact (Array.getElem?_eq_some_iff.1 h1).1
theorem Piled.cell {w : World} {a g s k : Nat} (h : Piled w a g s k) (i : Nat) (hi : i < k) : w.cell? ⟨a, i, none⟩ = some (pv g s i) := by
  obtain ⟨cs, h1, h2⟩ := h
  simp [World.cell?, h1, h2 i hi]
theorem Piled.ne {w : World} {a g s k g' o : Nat} {xs : List Int} (h : Piled w a g s k) (h' : Lies w g' o xs) : a ≠ g' := by
  rintro rfl
  obtain ⟨cs, h1, _⟩ := h
  obtain ⟨cs', h2, _⟩ := h'
  rw [h1] at h2
  injection h2 with h2
  injection h2 with _ h2 _
  cases h2
/-- What Cut has made, in words. -/
theorem pieces_open {w w' : World} {l : List Int} {s : Nat} {e : Ending} (h : Pieces w l s e w') (hk : 0 < many l.length s) :
    ∃ a cap g, e = .returned (.tuple #[.slice (some ⟨a, 0, none⟩) (many l.length s) cap, .int .i64 0]) ∧ many l.length s ≤ cap ∧ w.heap.size ≤ a ∧ w.heap.size ≤ g ∧ Piled w' a g s (many l.length s) ∧ Lies w' g 0 ((full l s).take (many l.length s * s)) ∧ Below w.heap.size w w' := by
  obtain ⟨v, g, cells, rfl, hR, hg, ht, hgw, hb⟩ := h
  have ho := Kd.own_of_R hR
  rw [List.length_range] at ho
  obtain ⟨a, cap, cur, rfl, ha, hga, hle, hsz, htk⟩ := own_some ho hk
  refine ⟨a, cap, g, rfl, hle, ha, hgw, ⟨cur, hga, fun i hi => ?_⟩, ⟨cells, hg, fun i x hx => ?_⟩, hb⟩
  · have e : (cur.toList.take (many l.length s))[i]? = some (pv g s i) := by rw [htk]; simp [encs, hi]
    rw [List.getElem?_take, if_pos hi] at e
    simpa using e
  · rw [List.getElem?_take] at hx
    split at hx
    · rename_i hi
      have e : (cells.toList.take (many l.length s * s))[i]? = some (.int .u8 x) := by rw [ht, List.getElem?_map, hx]; rfl
      rw [List.getElem?_take, if_pos hi] at e
      rw [Nat.zero_add]
      simpa using e
    · cases hx
theorem Lies.part {w : World} {g o : Nat} {xs : List Int} (h : Lies w g o xs) (m n : Nat) : Lies w g (o + m) ((xs.drop m).take n) := by
  obtain ⟨cs, h1, h2⟩ := h
  refine ⟨cs, h1, fun i x hx => ?_⟩
  rw [List.getElem?_take] at hx
  split at hx
  · rw [List.getElem?_drop] at hx
    rw [Nat.add_assoc]
    exact h2 _ _ hx
  · cases hx
theorem Lies.set {w : World} {g o : Nat} {xs : List Int} (h : Lies w g o xs) (j : Nat) (hj : j < o) (u : Value) : Lies (w.setCell ⟨g, j, none⟩ u) g o xs := by
  obtain ⟨cs, h1, h2⟩ := h
  refine ⟨_, blk_set h1 j u, fun i x hx => ?_⟩
  rw [Array.getElem?_setIfInBounds_ne (by omega)]
  exact h2 i x hx
/-- Bytes there are. -/
def Room (w : World) (g n : Nat) : Prop := ∃ cs, w.heap[g]? = some (.cells cs 5 (0, 0)) ∧ n ≤ cs.size
theorem Room.mono {w w' : World} {g n : Nat} (h : Room w g n) (he : w'.heap[g]? = w.heap[g]?) : Room w' g n := by
  obtain ⟨cs, h1, h2⟩ := h
  exact ⟨cs, he.trans h1, h2⟩
theorem Room.set {w : World} {g n : Nat} (h : Room w g n) (j : Nat) (u : Value) : Room (w.setCell ⟨g, j, none⟩ u) g n := by
  obtain ⟨cs, h1, h2⟩ := h
  exact ⟨_, blk_set h1 j u, by simpa using h2⟩
theorem Room.cell {w : World} {g n : Nat} (h : Room w g n) (j : Nat) (hj : j < n) : ∃ u, w.cell? ⟨g, j, none⟩ = some u ∧ w.frozen? ⟨g, j, none⟩ = false := by
  obtain ⟨cs, h1, h2⟩ := h
  refine ⟨cs[j]'(by omega), by simp [World.cell?, h1, show j < cs.size by omega], by simp [World.frozen?, h1]⟩
theorem append_lies {ops : Array Oper} {rest : List Oper} {o : Oper} {a : Act} {Q : Exit → Act → World → Prop} (W : World) (hgd : o.guard = none) (s x : Operand)
    (ho : o.op = .call { callee := .builtin .append, args := #[s, x], argTypes := #[25, 25] }) (b ad : Addr) (cap c : Nat) (xs ys : List Int) (nx ny m : Nat) (hnx : xs.length = nx) (hny : ys.length = ny) (hm : m = nx + ny)
    (hs : a.eval s = .slice (some b) nx cap) (hx : a.eval x = .slice (some ad) ny c) (hcap : cap < nx + ny) (hl : nx + ny ≤ 100000)
    (hxs : ∀ j u, xs[j]? = some u → W.cell? (b.add j) = some (.int .u8 u)) (hys : ∀ j u, ys[j]? = some u → W.cell? (ad.add j) = some (.int .u8 u))
    (h : ∀ g k w', m ≤ k → Lies w' g 0 (xs ++ ys) → W.heap.size ≤ g → Below W.heap.size W w' → wpList Tryd.prog ops Q rest (a.put o.dst (.slice (some ⟨g, 0, none⟩) m k)) w') :
    wpList Tryd.prog ops Q (o :: rest) a W := by
  subst hnx hny
  obtain ⟨i0, hi, hzz⟩ := Option.map_eq_some_iff.1 info25
  simp only [Prod.mk.injEq] at hzz
  obtain ⟨hz0, hz1, hz2⟩ := hzz
  refine wpList_append_grows W hgd s x 25 ho 5 i0 (.int .u8 0) 1 1 Tryd.underlying25 hi hz0 hz1 hz2 rfl (by decide) (some b) xs.length cap (xs.map (Value.int .u8)) hs (fun h => by cases h) (by simp) (fun b' hb j u hj => ?_)
    ad ys.length c (ys.map (Value.int .u8)) hx (by simp) (fun j u hj => ?_) (fun u hu => ?_) hcap (by unfold maxLen; omega) (by omega) (fun v' w' hown hg => ?_)
  · injection hb with hb
    subst hb
    rw [List.getElem?_map] at hj
    obtain ⟨z, hz, rfl⟩ := Option.map_eq_some_iff.1 hj
    exact hxs j z hz
  · rw [List.getElem?_map] at hj
    obtain ⟨z, hz, rfl⟩ := Option.map_eq_some_iff.1 hj
    exact hys j z hz
  · obtain ⟨z, _, rfl⟩ := List.mem_map.1 hu
    rfl
  · obtain ⟨g, k, cur, rfl, hb, hg1, hle, hsz, htk⟩ := own_some hown (by omega)
    rw [← hm]
    have hm' : m = (xs ++ ys).length := hm.trans (List.length_append).symm
    rw [← hm] at hle
    clear hm
    subst hm'
    rw [← List.length_append] at htk
    refine h g k w' hle ⟨cur, hg1, fun i z hz => ?_⟩ hb ((Below.refl _ _).grown hg (Nat.le_refl _) (fun k hk => by cases hk))
    have e : (cur.toList.take (xs ++ ys).length)[i]? = some (.int .u8 z) := by rw [htk, ← List.map_append, List.getElem?_map, hz]; rfl
    rw [List.getElem?_take, if_pos (List.getElem?_eq_some_iff.1 hz).1] at e
    rw [Nat.zero_add]
    simpa using e
theorem src_at {w : World} {A : Option Addr} {l : List Int} (h : (Kd.int .u8).C w A l.length l) (hp : 0 < l.length) : ∃ ad, A = some ad ∧ ∀ j x, l[j]? = some x → w.cell? (ad.add j) = some (.int .u8 x) := by
  obtain ⟨ad, e, hc⟩ := (Kd.reads_of_C (d := (0 : Int)) h).2.2 hp
  refine ⟨ad, e, fun j x hx => ?_⟩
  have hl := (List.getElem?_eq_some_iff.1 hx).1
  have := hc j hl
  rw [List.getD_eq_getElem?_getD, hx] at this
  exact this
set_option maxHeartbeats 1600000 in
theorem own_short (A : Option Addr) (c : Nat) (l : List Int) (a1 a2 : Int) (w : World) (hG : Laid w) (hs : l.length < 2 ∨ 300 < l.length) :
    Calls Tryd.prog 4 #[.slice A l.length c, .int .u8 a1, .int .u8 a2] w fun e w' => e = .returned (.bool true) ∧ Below w.heap.size w w' := by
  have HW := Lib.hid (keepsakelaw05_awake.calls 3000 true w hG (Pure.awake_f _ (by omega)))
  by_cases h : (l.length : Int) < 2
  · go_enter Tryd.func4, Tryd.ntmps4
    go_wp2_with (go_at_call 10; (with_reducible refine HW.out.mono ?_); rintro e w1 ⟨rfl, hb⟩; have HB := Aside0.mk hb; clear hb)
    go_ret
    exact ⟨rfl, HB.out⟩
  · have h2 : (300 : Int) < (l.length : Int) := by omega
    go_enter Tryd.func4, Tryd.ntmps4
    go_wp2_with (go_at_call 10; (with_reducible refine HW.out.mono ?_); rintro e w1 ⟨rfl, hb⟩; have HB := Aside0.mk hb; clear hb)
    go_ret
    exact ⟨rfl, HB.out⟩
structure St (w wr : World) (l F : List Int) (n m g0 b1 g1 b2 g2 : Nat) : Prop where
  l0 : Lies wr g0 0 l
  p1 : Piled wr b1 g1 n m
  p2 : Piled wr b2 g2 n m
  f1 : Lies wr g1 n (F.drop n)
  r1 : Room wr g1 n
  f2 : Lies wr g2 0 F
  n0 : g0 ≠ g1
  n2 : g2 ≠ g1
  hg : w.heap.size ≤ g1
  bel : Below w.heap.size w wr
section
variable {w wr w' : World} {l F : List Int} {n m g0 b1 g1 b2 g2 : Nat}
theorem St.below (h : St w wr l F n m g0 b1 g1 b2 g2) (hb : Below wr.heap.size wr w') : St w w' l F n m g0 b1 g1 b2 g2 where
  l0 := h.l0.mono (hb.block _ h.l0.lt)
  p1 := h.p1.mono (hb.block _ h.p1.lt)
  p2 := h.p2.mono (hb.block _ h.p2.lt)
  f1 := h.f1.mono (hb.block _ h.f1.lt)
  r1 := h.r1.mono (hb.block _ h.f1.lt)
  f2 := h.f2.mono (hb.block _ h.f2.lt)
  n0 := h.n0
  n2 := h.n2
  hg := h.hg
  bel := below_step h.bel hb
theorem St.set (h : St w wr l F n m g0 b1 g1 b2 g2) (j : Nat) (hj : j < n) (u : Value) : St w (wr.setCell ⟨g1, j, none⟩ u) l F n m g0 b1 g1 b2 g2 where
  l0 := h.l0.mono (Below.heap_setCell _ _ _ _ h.n0)
  p1 := h.p1.mono (Below.heap_setCell _ _ _ _ (h.p1.ne h.f1))
  p2 := h.p2.mono (Below.heap_setCell _ _ _ _ (h.p2.ne h.f1))
  f1 := h.f1.set j hj u
  r1 := h.r1.set j u
  f2 := h.f2.mono (Below.heap_setCell _ _ _ _ h.n2)
  n0 := h.n0
  n2 := h.n2
  hg := h.hg
  bel := h.bel.setCell h.hg _
theorem piece_at (h : Lies wr g2 0 F) (k : Nat) : Lies wr g2 (k * n) ((F.drop (k * n)).take n) := by
  have := h.part (k * n) n
  rwa [Nat.zero_add] at this
theorem piece_at1 (h : Lies wr g1 n (F.drop n)) (k : Nat) (hk : 1 ≤ k) : Lies wr g1 (k * n) ((F.drop (k * n)).take n) := by
  have e : k * n = n + (k * n - n) := by have : 1 * n ≤ k * n := Nat.mul_le_mul_right _ hk; omega
  have := h.part (k * n - n) n
  rw [List.drop_drop, ← e] at this
  exact this
end
theorem first_cell {W : World} {a g s k : Nat} (h : Piled W a g s k) (hk : 0 < k) : W.cell? ⟨a, 0, none⟩ = some (.slice (some ⟨g, 0, none⟩) s s) := by
  have := h.cell 0 hk
  unfold pv at this
  rwa [Nat.zero_mul] at this
theorem st_made {w w3 w4 : World} {l F : List Int} {n m g0 b1 g1 b2 g2 : Nat} (h0 : Lies w3 g0 0 l) (h1 : Piled w3 b1 g1 n m) (h2 : Lies w3 g1 0 F) (hne : g0 ≠ g1) (hg : w.heap.size ≤ g1) (hF : (F.drop (0 * n)).length ≥ n) (hb3 : Below w.heap.size w w3)
    (h3 : Piled w4 b2 g2 n m) (h4 : Lies w4 g2 0 F) (h5 : b2 < w4.heap.size) (h6 : w3.heap.size ≤ g2) (hb : Below w3.heap.size w3 w4) : St w w4 l F n m g0 b1 g1 b2 g2 where
  l0 := h0.mono (hb.block _ h0.lt)
  p1 := h1.mono (hb.block _ h1.lt)
  p2 := h3
  f1 := by
    have := (h2.mono (hb.block _ h2.lt)).part n F.length
    rw [Nat.zero_add, List.take_of_length_le (by simp)] at this
    exact this
  r1 := by
    obtain ⟨cs, k1, k2⟩ := h2.mono (hb.block _ h2.lt)
    refine ⟨cs, k1, ?_⟩
    rw [Nat.zero_mul, List.drop_zero] at hF
    rcases Nat.lt_or_ge cs.size n with h | h
    · have e := k2 cs.size F[cs.size] (List.getElem?_eq_getElem (by omega))
      rw [Nat.zero_add, Array.getElem?_eq_none (Nat.le_refl _)] at e
      cases e
    · exact h
  f2 := h4
  n0 := hne
  n2 := by have := h2.lt; omega
  hg := hg
  bel := below_step hb3 hb
theorem lies_at {W : World} {g : Nat} {xs : List Int} (h : Lies W g 0 xs) (j : Nat) (u : Int) (hj : xs[j]? = some u) : W.cell? ((⟨g, 0, none⟩ : Addr).add j) = some (.int .u8 u) := by
  obtain ⟨cs, h1, h2⟩ := h
  have := h2 j u hj
  rw [add_off]
  simp [World.cell?, h1] at this ⊢
  exact this
theorem one_at (W : World) (x : Int) (j : Nat) (u : Int) (hj : [x][j]? = some u) : (W.alloc (.cells #[.int .u8 x] 5)).cell? ((⟨W.heap.size, 0, none⟩ : Addr).add j) = some (.int .u8 u) := by
  refine lies_at ⟨_, heap_alloc_new W _, fun i z hz => ?_⟩ j u hj
  rw [Nat.zero_add]
  cases i with
  | zero => simpa using hz
  | succ i => simp at hz
theorem first_at {w3 w4 : World} {F : List Int} {g1 n : Nat} (h : Lies w3 g1 0 F) (hF : (F.drop (0 * n)).length ≥ n) (hb : Below w3.heap.size w3 w4) : ∃ p0 : List Int, p0.length = n ∧ Lies w4 g1 0 p0 := by
  rw [Nat.zero_mul, List.drop_zero] at hF
  refine ⟨F.take n, by rw [List.length_take]; omega, ?_⟩
  have := (h.mono (hb.block _ h.lt)).part 0 n
  simpa using this
theorem same_n (xs : List Int) (n : Nat) (h : xs.length = n) (hn : n ≤ 300) (W : World) (A B : Option Addr) (c c' : Nat) (h1 : (Kd.int .u8).C W A xs.length xs) (h2 : (Kd.int .u8).C W B xs.length xs) (hc : n ≤ c) (hc' : n ≤ c') :
    Calls Tryd.prog 13 #[.slice A n c, .slice B n c'] W fun e w' => e = .returned (.bool true) ∧ Drawn0 W w' := by
  subst h
  exact keepsakeref01_Same.calls 1000 A c xs B c' xs true W h1 hc h2 hc' (Pure.same_self xs (by omega) 1000 (by omega))
set_option maxHeartbeats 1600000 in
theorem own_long (A : Option Addr) (c : Nat) (l : List Int) (a1 a2 : Int) (w : World) (hG : Laid w) (hr : (Kd.int .u8).C w A l.length l) (hc : l.length ≤ c) (ha : 0 ≤ a1 ∧ a1 ≤ 255) (h0 : 2 ≤ (l.length : Int)) (h1 : (l.length : Int) ≤ 300) :
    Calls Tryd.prog 4 #[.slice A l.length c, .int .u8 a1, .int .u8 a2] w fun e w' => e = .returned (.bool true) ∧ Below w.heap.size w w' := by
  have HW := Lib.hid (keepsakelaw05_awake.calls 3000 true w hG (Pure.awake_f _ (by omega)))
  obtain ⟨ad, hA, hsrc⟩ := src_at hr (by omega)
  obtain ⟨n, hn⟩ : ∃ n : Nat, 1 + a1 % ((l.length : Int) - 1) = (n : Int) := ⟨(1 + a1 % ((l.length : Int) - 1)).toNat, by have := Int.emod_nonneg a1 (show (l.length : Int) - 1 ≠ 0 by omega); omega⟩
  have hn1 : 1 ≤ n ∧ n < l.length := by
    have g1 := Int.emod_nonneg a1 (show (l.length : Int) - 1 ≠ 0 by omega)
    have g2 := Int.emod_lt_of_pos a1 (show 0 < (l.length : Int) - 1 by omega)
    omega
  have e3 : wrap64 (1 + a1 % ((l.length : Int) - 1)) = (n : Int) := by rw [Pure.w64 _ (by omega) (by omega), hn]
  obtain ⟨m, hm⟩ : ∃ m, many l.length n = m := ⟨_, rfl⟩
  have hm2 : 2 ≤ m ∧ m ≤ 300 := by
    have g1 := many_full l.length n (by omega)
    have g2 := many_le l.length n (by omega)
    rw [hm] at g1 g2
    refine ⟨?_, by omega⟩
    rcases Nat.lt_or_ge m 2 with h | h
    · have : m * n ≤ 1 * n := Nat.mul_le_mul_right _ (by omega)
      omega
    · exact h
  have hFl : ∀ k, k < m → (((full l n).take (m * n)).drop (k * n)).length ≥ n := by
    intro k hk
    have g1 := full_len l n (by omega)
    have g2 : (k + 1) * n ≤ m * n := Nat.mul_le_mul_right _ (by omega)
    rw [hm] at g1
    rw [Nat.add_mul, Nat.one_mul] at g2
    rw [List.length_drop, List.length_take]
    omega
  have HCut : Hid (∀ W g k, l.length ≤ k → Lies W g 0 l → Calls Tryd.prog 14 #[.slice (some ⟨g, 0, none⟩) l.length k, .int .i64 (n : Int)] W fun e w' =>
      ∃ a cap g, e = .returned (.tuple #[.slice (some ⟨a, 0, none⟩) m cap, .int .i64 0]) ∧ m ≤ cap ∧ W.heap.size ≤ a ∧ W.heap.size ≤ g ∧ Piled w' a g n m ∧ Lies w' g 0 ((full l n).take (m * n)) ∧ Below W.heap.size W w') :=
    Lib.hid (fun W g k hk hL => (cut_yes (some ⟨g, 0, none⟩) k l n W (hL.C (by omega)) hk (by omega) (by omega) (by omega) (by omega)).mono fun e w' h => by rw [← hm]; exact pieces_open h (by omega))
  generalize (full l n).take (m * n) = F at hFl HCut
  have HS := Aside0.mk hsrc
  have HR := Aside0.mk hr
  have HF := Aside0.mk hFl
  have HN := Aside0.mk hn1
  have hn2 : (1 : Int) ≤ (n : Int) := by omega
  have hn3 : (n : Int) ≤ 299 := by omega
  have hm3 : (2 : Int) ≤ (m : Int) := by omega
  have hm4 : (m : Int) ≤ 300 := by omega
  subst hA
  clear hsrc hr hFl hn1 hn hm hm2
  go_enter Tryd.func4, Tryd.ntmps4
  go_upto_region 6 with (first
    | (go_at_call 10; (with_reducible refine HW.out.mono ?_); rintro e w1 ⟨rfl, hb⟩; have HB := Aside0.mk hb; clear hb)
    | ((with_reducible refine gate_dst (N := 36) rfl ?_); refine append_lies _ rfl (.tmp 34) (.tmp 35) rfl ⟨w1.heap.size, 0, none⟩ ad 0 c [] l 0 l.length l.length rfl rfl (Nat.zero_add _).symm rfl rfl (by omega) (by omega) (fun j u h => by simp at h) (fun j u h => pw_cell_below (below_alloc HB.out _) (HS.out j u h)) ?_; intro g0 k0 w2 hk hl0 hg0 hb; have HK0 := Aside0.mk hk; have HL0 : Aside0 (Lies w2 g0 0 l) := ⟨hl0⟩; have HB2 := Aside0.mk (below_step (below_alloc HB.out _) hb); clear hk hl0 hg0 hb))
  go_upto_region 7 with (first
    | (go_at_call 14; (with_reducible refine (HCut.out _ _ _ HK0.out HL0.out).mono ?_); rintro e w3 ⟨b1, cap1, g1, rfl, q1, q2, q3, q4, q5, q6⟩; have HC1 := Aside0.mk q1; have HP1 := Aside0.mk q4; have HF1 := Aside0.mk q5; have HL3 := Aside0.mk (Lies.mono HL0.out (q6.block _ HL0.out.lt)); have HB3 := Aside0.mk (below_step HB2.out q6); have HG1 : Aside0 (g0 ≠ g1 ∧ w.heap.size ≤ g1) := ⟨by have := HL0.out.lt; omega, Nat.le_trans HB2.out.size q3⟩; clear q1 q2 q3 q4 q5 q6))
  go_upto_region 8 with (first
    | (go_at_call 14; (with_reducible refine (HCut.out _ _ _ HK0.out HL3.out).mono ?_); rintro e w4 ⟨b2, cap2, g2, rfl, q1, q2, q3, q4, q5, q6⟩; have HST : Aside0 (St w w4 l F n m g0 b1 g1 b2 g2) := ⟨st_made HL3.out HP1.out HF1.out HG1.out.1 HG1.out.2 (HF.out 0 (by omega)) HB3.out q4 q5 q4.lt q3 q6⟩; have hc1 := first_cell HST.out.p1 (by omega); have HP := Aside0.mk (first_at HF1.out (HF.out 0 (by omega)) q6); have HC2 := Aside0.mk q1; clear q1 q2 q3 q4 q5 q6))
  obtain ⟨p0, hp0, hp1⟩ := HP.out
  have HP0 := Aside0.mk hp0
  have HP1' := Aside0.mk hp1
  clear hp0 hp1 HP
  go_wp2_with (first
    | ((with_reducible refine gate_dst (N := 72) rfl ?_); refine append_lies _ rfl (.tmp 69) (.tmp 71) rfl ⟨g1, 0, none⟩ ⟨w4.heap.size, 0, none⟩ n 1 p0 [a2] n 1 (n + 1) HP0.out rfl rfl rfl rfl (by omega) (by omega) (lies_at (HP1'.out.mono (Below.heap_alloc _ _ _ HP1'.out.lt))) (one_at _ _) ?_; intro g3 k3 w5 hk hl3 hg3 hb; have HS5 := Aside0.mk (St.below HST.out (below_step (Below.alloc (Below.refl _ _) (Nat.le_refl _) _) hb)); clear hk hl3 hg3 hb))
  clear hc1 HP0 HP1' HF1 HP1 HL0 HL3 HB HB2 HB3 HG1 HS HCut HW e3 HST
  go_loopw [15] (fun i wr => ∃ k : Nat, k ≤ n ∧ i = .int .i64 (k : Int) ∧ Aside0 (St w wr l F n m g0 b1 g1 b2 g2)) (fun i _ => n - (intOf i).toNat)
  case atStart => exact ⟨0, Nat.zero_le _, rfl, HS5⟩
  case round =>
    obtain ⟨k, hk, rfl, HT⟩ := hrel
    have hc1 := first_cell HT.out.p1 (by omega)
    by_cases hlt : k < n
    · obtain ⟨u, hu, hf⟩ := HT.out.r1.cell k hlt
      have HT2 := Aside0.mk (HT.out.set k hlt (.int .u8 a2))
      have hlt' : (k : Int) < (n : Int) := by omega
      go_wp2
      go_roundw
      case rel => exact ⟨k + 1, by omega, by go_num, HT2⟩
      case measure => simp [intOf]; omega
    · obtain rfl : k = n := by omega
      clear hk hlt HS5
      have hgiv := fun (W : World) (h : (Kd.int .u8).C W (some ⟨g0, 0, none⟩) l.length l ∧ (Kd.int .u8).C W (some ad) l.length l) => same_n l l.length rfl (by omega) W (some ⟨g0, 0, none⟩) (some ad) k0 c h.1 h.2 HK0.out hc
      have HGIV := Lib.hid hgiv
      clear hgiv
      go_wp2_with fail
      go_loopw [16] (fun i wq => ∃ q : Nat, 1 ≤ q ∧ q ≤ m ∧ i = .int .i64 (q : Int) ∧ Aside0 (St w wq l F k m g0 b1 g1 b2 g2)) (fun i _ => m - (intOf i).toNat)
      case atStart => exact ⟨1, Nat.le_refl _, by omega, rfl, HT⟩
      case round =>
        obtain ⟨q, hq1, hq2, rfl, HU⟩ := hrel
        clear HT hc1
        by_cases hlt : q < m
        · have hc2 := HU.out.p1.cell q hlt
          have hc3 := HU.out.p2.cell q hlt
          unfold pv at hc2 hc3
          have hF := HF.out q hlt
          have hL1 := piece_at1 HU.out.f1 q hq1
          have hL2 := piece_at (n := k) HU.out.f2 q
          have hl : ((F.drop (q * k)).take k).length = k := by rw [List.length_take]; omega
          generalize (F.drop (q * k)).take k = xs at hL1 hL2 hl
          have HSM : Hid (∀ N, Calls Tryd.prog 13 #[.slice (some ⟨g1, q * k, none⟩) k k, .slice (some ⟨g2, q * k, none⟩) k k] (wr.drewN N) fun e w' => e = .returned (.bool true) ∧ Drawn0 (wr.drewN N) w') :=
            Lib.hid (fun N => same_n xs k hl (by omega) _ _ _ _ _ (Kd.C_drewN (hL1.C (by omega)) _) (Kd.C_drewN (hL2.C (by omega)) _) (Nat.le_refl _) (Nat.le_refl _))
          clear hL1 hL2 hl hF
          have hlt' : (q : Int) < (m : Int) := by omega
          have hq3 : (1 : Int) ≤ (q : Int) := by omega
          go_wp2
          go_quiet ((go_at_call 13; (with_reducible refine (HSM.out _).mono ?_); rintro e w' ⟨rfl, ⟨nd, rfl⟩⟩; (first | exact ⟨rfl, _, World.drewN_drewN _ _ _⟩ | exact ⟨rfl, _, Eq.trans (World.drewN_drewN _ _ _) (congrArg (World.drewN _) (Nat.add_assoc _ _ _))⟩)))
          rename_i nq
          have HU2 := Aside0.mk (HU.out.below (pw_below_drewN (Below.refl _ _) nq))
          go_wp2
          go_roundw
          case rel => exact ⟨q + 1, by omega, by omega, by go_num, HU2⟩
          case measure => simp [intOf]; omega
        · have hlt' : ¬ (q : Int) < (m : Int) := by omega
          have HCC := Aside0.mk (HU.out.l0.C (show l.length ≤ 100000 by omega))
          go_wp2_with (go_at_call 13; (with_reducible refine (HGIV.out _ ⟨HCC.out, Kd.C_below HR.out HU.out.bel⟩).mono ?_); rintro e w6 ⟨rfl, hd⟩; have HD := Aside0.mk hd.below; clear hd)
          go_ret
          exact ⟨rfl, below_step HU.out.bel HD.out⟩
end Go.Proofs.YtmlldfkmmmncgaaDoor.Own
namespace Go.Proofs.YtmlldfkmmmncgaaDoor.Given
open Go.RowKit Go.Proofs.YtmlldfkmmmncgaaDoor.All Go.Proofs.YtmlldfkmmmncgaaDoor.Own Go.Proofs.YtmlldfkmmmncgaaDoorW.PrintWords
theorem imageOwn_walk (a0 : Option Addr) (cap0 : Nat) (l0 : List Int) (a1 a2 : Int) (w : World) (hG : Laid w) (hr0 : (Kd.int .u8).C w a0 l0.length l0) (hc0 : l0.length ≤ cap0) (hw0 : ∀ n ∈ l0, (Lit.int .u8 n).wf = true) (w1 : (Lit.int .u8 a1).wf = true) (w2 : (Lit.int .u8 a2).wf = true) :
    Calls Tryd.prog 4 #[.slice a0 l0.length cap0, .int .u8 a1, .int .u8 a2] w fun e w' => e = .returned (.bool true) ∧ Below w.heap.size w w' := by
  by_cases h : l0.length < 2 ∨ 300 < l0.length
  · exact own_short a0 cap0 l0 a1 a2 w hG h
  · exact own_long a0 cap0 l0 a1 a2 w hG hr0 hc0 (by simp [Lit.wf, IntKind.min, IntKind.max, IntKind.signed, IntKind.bits] at w1; omega) (by omega) (by omega)
end Go.Proofs.YtmlldfkmmmncgaaDoor.Given
