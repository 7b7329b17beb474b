/- A constant text's bytes in new memory ('[]byte("..")'): the row that a conversion marks, and an append to it, which must grow. -/
import Derived.Test.YtlinaijndlcfjaaDoorWWords
import Derived.Test.YtlinaijndlcfjaaDoorProg
import Derived.Lib.SlBytesConst
import Derived.ArgAppend
import Derived.Maps.RangeWalk
import Derived.Deep.AppendLies
import Derived.WalkKit
set_option linter.unusedVariables false
set_option linter.unusedSimpArgs false
namespace Go.Proofs.YtlinaijndlcfjaaDoor.Given
open Go.RowKit Go.Proofs.YtlinaijndlcfjaaDoorW.PrintWords

theorem lit_const {P : Program} {ops : Array Oper} {o : Oper} {rest : List Oper} {a : Act} {Q : Exit → Act → World → Prop} {W : World} (hgd : o.guard = none) {N : Tmp} (_hd : o.dst = some N) {cs : Array Value} {t e : TypeId} {n : Nat}
    (ht : P.underlying t = some (.slice e)) (he : P.underlying e = some (.int .u8))
    (hrun : (execOp a.eval o).run P W = .ok (.value (.slice (some ⟨W.heap.size, 0, none⟩) n n)) (W.alloc (.cells cs e)))
    (h : ∀ g, g = W.heap.size → ∀ w1 w2, (convert t t (.slice (some ⟨g, 0, none⟩) n n)).run P w1 = .ok (.slice (some ⟨g, 0, none⟩) n n) w2 →
      w2.heap[g]? = some (.cells cs e (cs.size, cs.size + 1)) → Below W.heap.size W w2 → wpList P ops Q rest (a.put o.dst (.slice (some ⟨g, 0, none⟩) n n)) w1) :
    wpList P ops Q (o :: rest) a W :=
  Kd.event_run hgd hrun (h _ rfl _ _ (Lib.run_convert_bytes_const W t e cs n n ht he) (blk_new W _) (below_alloc (Below.refl _ _) _))

theorem append_const {P : Program} {ops : Array Oper} {o : Oper} {rest : List Oper} {a : Act} {Q : Exit → Act → World → Prop} {w0 W : World} (base : Nat) (hgd : o.guard = none) (s x : Operand) (t e : TypeId)
    (ho : o.op = .call { callee := .builtin .append, args := #[s, x], argTypes := #[t, t] })
    (ht : P.underlying t = some (.slice e)) (hinfo : (P.info? e).map (fun i => (i.zero, i.size, i.bytes)) = some (some (.int .u8 0), 1, 1))
    (g : Nat) (fr : Nat × Nat) (xs ys : List Int) (A : Option Addr) (m c : Nat) (ok : Nat → Prop) (hs : a.eval s = .slice (some ⟨g, 0, none⟩) xs.length xs.length) (hx : a.eval x = .slice A m c)
    (HM : W.heap[g]? = some (.cells (xs.map (Value.int .u8)).toArray e fr)) (HR : (Kd.int .u8).C W A m ys) (hm : 0 < m) (hfresh : ∀ k, W.heap.size ≤ k → ok k)
    (HB : Below base w0 W) (hbase : base ≤ W.heap.size) (hl : xs.length + m ≤ 140737488355328)
    (h : ∀ v1 w1, (Kd.int .u8).R e w1 base ok v1 (xs ++ ys) → Below base w0 w1 → W.grownBy w1 (Value.slice (some ⟨g, 0, none⟩) xs.length xs.length).ownBlock →
      (v1.ownBlock = (Value.slice (some ⟨g, 0, none⟩) xs.length xs.length).ownBlock ∨ ∃ b, v1.ownBlock = some b ∧ W.heap.size ≤ b) → wpList P ops Q rest (a.put o.dst v1) w1) :
    wpList P ops Q (o :: rest) a W := by
  obtain ⟨i0, hi, hzz⟩ := Option.map_eq_some_iff.1 hinfo
  simp only [Prod.mk.injEq] at hzz
  obtain ⟨hz0, hz1, hz2⟩ := hzz
  have hr : ReadsOf (Value.int .u8) 0 W A m ys := Kd.reads_of_C (h1 := fun _ => rfl) HR
  have hlen : ys.length = m := hr.1
  obtain ⟨ad, rfl, hc⟩ := hr.2.2 hm
  refine wpList_append_grows W hgd s x t ho e i0 (.int .u8 0) 1 1 ht hi hz0 hz1 hz2 rfl (by decide) (some ⟨g, 0, none⟩) xs.length xs.length (xs.map (Value.int .u8)) hs (fun h => by cases h) (by simp) (fun b hb j u hj => ?_)
    ad m c (ys.map (Value.int .u8)) hx (by simp [hlen]) (fun j u hj => ?_) (fun u hu => ?_) (by omega) (by unfold maxLen; omega) (by omega) (fun v' w' hown hg => ?_)
  · cases hb
    have := cell_of_row W g j _ _ _ HM
    rw [List.getElem?_toArray, hj] at this
    by_cases h0 : j = 0
    · subst h0; simpa [Addr.add] using this
    · simpa [Addr.add, h0] using this
  · have hjl : j < ys.length := by
      rcases Nat.lt_or_ge j ys.length with h' | h'
      · exact h'
      · rw [List.getElem?_eq_none (by rw [List.length_map]; exact h')] at hj
        cases hj
    rw [hc j (by omega)]
    rw [List.getElem?_map, List.getElem?_eq_getElem hjl] at hj
    simp at hj
    subst hj
    simp [List.getD_eq_getElem?_getD, List.getElem?_eq_getElem hjl]
  · obtain ⟨z, _, rfl⟩ := List.mem_map.1 hu
    rfl
  · have hown' : w'.ownsRow W.heap.size e 1 v' (xs ++ ys).length (encs (Value.int .u8) (xs ++ ys)) := by
      rw [List.length_append, hlen, encs_append]
      exact hown
    have hat : ∃ b, v'.ownBlock = some b ∧ W.heap.size ≤ b := by
      rcases hown.2 with ⟨_, h0⟩ | ⟨g', cap, cur, rfl, hb, _⟩
      · omega
      · exact ⟨g', by simp [Value.ownBlock], hb⟩
    obtain ⟨b, hb, hle⟩ := hat
    refine h v' w' (Kd.R_of_own (own_less hown' hbase) (fun k hk => ?_)) (HB.grown hg hbase (fun k hk => by cases hk)) (hg.but _) (Or.inr ⟨b, hb, hle⟩)
    rw [hb] at hk
    cases hk
    exact hfresh _ hle

theorem marked_ne {w : World} {g gb : Nat} {t e : TypeId} {cs cs' : Array Value} {fr : Nat × Nat} {n c : Nat} (h : w.heap[g]? = some (.cells cs e fr)) (hb : w.heap[gb]? = some (.cells cs' t (0, 0))) (hne : e ≠ t) :
    some gb ≠ (Value.slice (some ⟨g, 0, none⟩) n c).ownBlock := by
  intro he
  have he : gb = g := by simpa [Value.ownBlock] using he
  subst he
  rw [h] at hb
  injection hb with hb
  injection hb with _ ht
  exact hne ht
theorem R_newm {α : Type} {d : Kd α} {e : Nat} {w : World} {base : Nat} {ok : Nat → Prop} {v : Value} {xs : List α} (h : d.R e w base ok v xs) {g n c : Nat} (hg : g < base) :
    d.R e w base (fun k => ok k ∧ some k ≠ (Value.slice (some ⟨g, 0, none⟩) n c).ownBlock) v xs :=
  Kd.R_mono (Kd.R_bound h) (fun k hk => ⟨hk.1, fun he => by
    have he : k = g := by simpa [Value.ownBlock] using he
    have := hk.2
    omega⟩)

end Go.Proofs.YtlinaijndlcfjaaDoor.Given
