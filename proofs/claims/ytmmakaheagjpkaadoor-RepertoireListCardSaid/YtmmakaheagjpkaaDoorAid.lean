/- Aid for the printed and hand-made contracts of this seat: what is known of the tables of package utf8; a slice made with length 0 and a capacity. -/
import Derived.Test.YtmmakaheagjpkaaDoorWWords
import Derived.Test.YtmmakaheagjpkaaDoorWMore
import Derived.Test.YtmmakaheagjpkaaDoorWLast
import Derived.Test.YtmmakaheagjpkaaDoorShelf
import Derived.Laws.Runes
import GoSem.ClaimSeven
import Derived.Shelf.Unicode.DecodeAny
namespace Go.Proofs.YtmmakaheagjpkaaDoor
open Go.RowKit Go.Proofs.YtmmakaheagjpkaaDoorW.PrintWords

/-- The two tables of unicode/utf8 lie in the world as the library lays them. -/
def PTabs (w : World) : Prop := Lib.Utf8Tabs 0 1 w
theorem PTabs.step {w w' : World} (h : PTabs w) (hb : Below w.heap.size w w') : PTabs w' := Utf8Tabs_below h hb
theorem PTabs.here {w : World} (h : PTabs w) : Lib.Utf8Tabs 0 1 w := h

namespace Aid
theorem no_standin {P : Program} {ps : Array TypeId} (h : (ps.toList.all fun t => !(P.wantsStandIn t)) = true) {j : Nat} {t : TypeId} (ht : ps[j]? = some t) : P.wantsStandIn t = false := by
  have hm : t ∈ ps.toList := by
    rw [Array.mem_toList_iff]
    exact Array.mem_of_getElem? ht
  have := List.all_eq_true.1 h t hm
  simpa using this
section
variable {P : Program} {ops : Array Oper} {rest : List Oper} {o : Oper} {a : Act} {Q : Exit → Act → World → Prop}
/-- make([]T, 0, n). -/
theorem R_make0 {α : Type} (d : Kd α) {w0 W : World} (base e : Nat) (hgd : o.guard = none) {N : Tmp} (_hd : o.dst = some N) (t : TypeId) (x y : Operand) (ho : o.op = .makeSlice t x y) (n : Int) (hx : a.eval x = .int .i64 0) (hy : a.eval y = .int .i64 n)
    (ht : P.underlying t = some (.slice e)) (z : Value) (bytes : Nat) (hinfo : (P.info? e).map (fun i => (i.zero, i.size, i.bytes)) = some (some z, d.sz, bytes)) (hb0 : 0 < bytes)
    {ok : Nat → Prop} (hfresh : ok W.heap.size) (h0 : 0 ≤ n) (hl : n.toNat * bytes ≤ 281474976710656) (HB : Below base w0 W) (hbase : base ≤ W.heap.size)
    (h : ∀ v1 w1, d.R e w1 base ok v1 [] → Below base w0 w1 → W.grownBy w1 none → (∃ b, v1.ownBlock = some b ∧ W.heap.size ≤ b) → wpList P ops Q rest (a.put o.dst v1) w1) : wpList P ops Q (o :: rest) a W := by
  obtain ⟨m, rfl⟩ := Int.eq_ofNat_of_zero_le h0
  simp only [Int.toNat_natCast] at hl
  obtain ⟨i0, hi, hzz⟩ := Option.map_eq_some_iff.1 hinfo
  simp only [Prod.mk.injEq] at hzz
  obtain ⟨hz0, hz1, hz2⟩ := hzz
  have hm : m ≤ 281474976710656 := Nat.le_trans (Nat.le_mul_of_pos_right _ hb0) hl
  obtain ⟨w', hr, hown, hg⟩ := run_make_own (P := P) (w := W) base t e i0 z d.sz ht hi hz0 hz1 .i64 .i64 m (by rw [hz2, Nat.mul_comm]; exact hl) (by unfold maxLen; omega) hbase
  refine Kd.event_run (v := .slice (some ⟨W.heap.size, 0, none⟩) 0 m) (w1 := w') hgd ?_ (h _ _ ⟨fun k hk => ?_, [], hown, Reps.none _ _⟩ ?_ hg ⟨W.heap.size, by simp [Value.ownBlock], Nat.le_refl _⟩)
  · simp [execOp, ho, hx, hy, hr]
  · have : W.heap.size = k := by simpa [Value.ownBlock] using hk
    subst this
    exact hfresh
  · exact HB.grown hg hbase (fun k hk => by cases hk)
end
end Aid
end Go.Proofs.YtmmakaheagjpkaaDoor
