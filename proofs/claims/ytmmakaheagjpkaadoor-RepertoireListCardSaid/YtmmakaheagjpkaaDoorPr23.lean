-- printed by wip/tools/pr.py (the kit's print.py, altered in memory) for this claim. Not trusted: Lean checks it.
import Derived.Test.YtmmakaheagjpkaaDoorPr0
import Derived.Test.YtmmakaheagjpkaaDoorPr5
namespace Go.Proofs.YtmmakaheagjpkaaDoor.Pr
open Go.RowKit Go.Proofs.YtmmakaheagjpkaaDoorW.PrintWords Go.Proofs.YtmmakaheagjpkaaDoorW.PrintLast Go.Proofs.YtmmakaheagjpkaaDoorW.PrintMore
noncomputable section
attribute [local go_sem] max2_int min2_int max_two min_two max_three min_three max_four min_four   -- for this text's walks alone
set_option linter.unusedVariables false
set_option linter.unusedSimpArgs false

/-! ### repertoire_List: function 22 -/
/-- The characters among n numbers from c on, behind a list. -/
def repertoire_List.row : Nat → Int → List Int → Option (List Int)
  | 0, _, acc => some acc
  | n + 1, c, acc => (repertoire_Has.f 8 c).bind fun h => repertoire_List.row n (c + 1) (if h = true then acc ++ [c] else acc)
def repertoire_List.rest : Nat → List Int → Option (List Int)
  | 0, acc => (repertoire_List.row 1248 32 acc).bind fun a => repertoire_List.row 1119 64256 a
  | 1, acc => repertoire_List.row 1119 64256 acc
  | _ + 2, acc => some acc
/-- repertoire.List, by its loops. -/
def repertoire_List.f : Option (List Int) := repertoire_List.rest 0 []
theorem repertoire_List.ix0 (wr : World) : Sem.run Tryd.prog (Instr.index 46 (Value.agg #[.int .i64 32, .int .i64 1279, .int .i64 64256, .int .i64 65374]) (Value.int IntKind.i64 0)) wr = .ok (.agg #[.int .i64 32, .int .i64 1279]) wr := by
  simp [Instr.index, run_underlying Tryd.underlying46, asIntOf, go_sem]
theorem repertoire_List.ix1 (wr : World) : Sem.run Tryd.prog (Instr.index 46 (Value.agg #[.int .i64 32, .int .i64 1279, .int .i64 64256, .int .i64 65374]) (Value.int IntKind.i64 1)) wr = .ok (.agg #[.int .i64 64256, .int .i64 65374]) wr := by
  simp [Instr.index, run_underlying Tryd.underlying46, asIntOf, go_sem]
set_option maxHeartbeats 8000000 in
set_option maxRecDepth 100000 in
theorem repertoire_List.calls (r1 : List Int) (w : World) (h : repertoire_List.f = some r1) :
    Calls Tryd.prog 22 #[] w fun e w' => ∃ v0_ : Value, e = .returned v0_ ∧ Kd.R (Kd.int .i64) 3 w' w.heap.size (fun _ => True) v0_ r1 ∧ Below w.heap.size w w' := by
  have HF := Aside0.mk h
  clear h
  go_enter Tryd.func22, Tryd.ntmps22
  go_wp2
  go_loopw [8, 1] (fun v8 v1 wc => ∃ (q : Nat) (l : List Int), v8 = .int .i64 q ∧ q ≤ 2 ∧ l.length ≤ 1248 * q ∧ Aside0 (repertoire_List.rest q l = some r1) ∧ Aside0 (Kd.R (Kd.int .i64) 3 wc w.heap.size (fun _ => True) v1 l) ∧ Aside0 (Below w.heap.size w wc)) (fun v8 _ _ => 2 - (RowKit.intOf v8).toNat)
  case atStart => exact ⟨0, [], rfl, by omega, by simp, HF, ⟨Kd.R_nil _ _ _ _ _⟩, ⟨Below.refl _ _⟩⟩
  case round =>
    obtain ⟨q, l, rfl, hq, hl, HR, HO, HB⟩ := hrel
    clear HF
    rcases q with _ | _ | _ | q
    · have HS : Aside0 (∃ l', repertoire_List.row 1248 32 l = some l' ∧ repertoire_List.rest 1 l' = some r1) := ⟨by have h := HR.out; unfold repertoire_List.rest at h; obtain ⟨a, ha, hb⟩ := Option.bind_eq_some_iff.1 h; exact ⟨a, ha, hb⟩⟩
      clear HR
      obtain ⟨wo, hwo⟩ : ∃ wo, wo = wr := ⟨_, rfl⟩
      subst hwo
      have hwr := below_size HB.out
      have hq1 : l.length ≤ 0 := by omega
      clear hl hq
      go_wp2
      rw [repertoire_List.ix0]
      simp only [Result.andThen]
      rw [Oper.upon_value]
      go_wp2
      go_loopw [4, 1] (fun v4 v1 wc => ∃ (c : Int) (n : Nat) (m : List Int), v4 = .int .i64 c ∧ 32 ≤ c ∧ c + n = 1280 ∧ m.length + n ≤ l.length + 1248 ∧ Aside0 (∃ l', repertoire_List.row n c m = some l' ∧ repertoire_List.rest 1 l' = some r1) ∧ Aside0 (Kd.R (Kd.int .i64) 3 wc w.heap.size (fun k => k ≠ wo.heap.size) v1 m) ∧ Aside0 (wc.heap[wo.heap.size]? = some (.cells #[.int .i64 32, .int .i64 1279] 45 (0, 0))) ∧ Aside0 (Below w.heap.size w wc)) (fun v4 _ _ => 1280 - (RowKit.intOf v4).toNat)
      case atStart =>
        refine ⟨32, 1248, l, rfl, by omega, by omega, by omega, HS, ⟨Kd.R_alloc (Kd.R_mono (Kd.R_bound HO.out) (fun k hk => Nat.ne_of_lt hk.2.2.1)) _⟩, ⟨heap_alloc_new _ _⟩, ⟨HB.out.alloc hwr _⟩⟩
      case round =>
        clear HS HO HB
        obtain ⟨c, n, m, rfl, hlo, hn, hm, HS, HO, HC, HB⟩ := hrel
        have c0 := Lib.cell_of_heap HC.out 0
        have c1 := Lib.cell_of_heap HC.out 1
        simp only [List.getElem?_toArray, List.getElem?_cons_zero, List.getElem?_cons_succ] at c0 c1
        cases n with
        | zero =>
          have hle : ¬ c ≤ 1279 := by omega
          obtain ⟨l', hl', hrest⟩ := HS.out
          simp only [repertoire_List.row, Option.some.injEq] at hl'
          subst hl'
          have HR := Aside0.mk hrest
          clear HS hrest
          go_wp2
          go_roundw
          case rel => exact ⟨1, m, by go_num, by omega, by omega, HR, ⟨Kd.R_mono HO.out (fun _ _ => trivial)⟩, HB⟩
          case measure => simp [RowKit.intOf]
        | succ n =>
          have hle : c ≤ 1279 := by omega
          obtain ⟨l', hl', hrest⟩ := HS.out
          simp only [repertoire_List.row] at hl'
          obtain ⟨h, hH, hl'⟩ := Option.bind_eq_some_iff.1 hl'
          have HH := Aside0.mk hH
          have HS2 := Aside0.mk (And.intro hl' hrest)
          clear HS hrest hH hl'
          cases h with
          | false =>
            go_wp2_with (go_at_call 13; (with_reducible refine (repertoire_Has.calls 8 c false _ HH.out).mono ?_); rintro e w1 ⟨rfl, hb1⟩)
            have hlt : wo.heap.size < wr.heap.size := by
              rcases Nat.lt_or_ge wo.heap.size wr.heap.size with h' | h'
              · exact h'
              · have h2 := HC.out; rw [Array.getElem?_eq_none h'] at h2; cases h2
            go_roundw
            case rel => exact ⟨c + 1, n, m, by go_num, by omega, by omega, by omega, ⟨l', HS2.out⟩, ⟨Kd.R_below HO.out hb1⟩, ⟨(hb1.block _ hlt).trans HC.out⟩, ⟨HB.out.trans (hb1.mono HB.out.size)⟩⟩
            case measure => simp [RowKit.intOf]; omega
          | true =>
            have hlt : wo.heap.size < wr.heap.size := by
              rcases Nat.lt_or_ge wo.heap.size wr.heap.size with h' | h'
              · exact h'
              · have h2 := HC.out; rw [Array.getElem?_eq_none h'] at h2; cases h2
            have HL := Aside0.mk hlt
            clear hlt
            go_wp2_with (first | (go_at_call 13; (with_reducible refine (repertoire_Has.calls 8 c true _ HH.out).mono ?_); rintro e w1 ⟨rfl, hb1⟩; have HB1 := Aside0.mk hb1; clear hb1) | (at_builtin; refine Kd.R_append (Kd.int .i64) (w0 := w) w.heap.size rfl (.tmp 21) (.tmp 23) 26 3 (.int .i64 0) 8 rfl Tryd.underlying26 info3 rfl (by decide) (by omega) _ m c [.int .i64 c] (fun k => k ≠ wo.heap.size) (fun _ => False) rfl rfl rfl (fun _ hk => hk.elim) (fun k hk => by have h1 := HL.out; have h2 := HB1.out.size; omega) (Kd.R_below HO.out HB1.out) (HB.out.trans (HB1.out.mono HB.out.size)) (Nat.le_trans HB.out.size HB1.out.size) (by omega) ?_; intro v1 w2 ho2 hb2 hg2 hat2; have HO2 := Aside0.mk ho2; have HB2 := Aside0.mk hb2; have HG2 := Aside0.mk hg2; clear ho2 hb2 hg2 hat2))
            go_roundw
            case rel =>
              refine ⟨c + 1, n, m ++ [c], by go_num, by omega, by omega, by rw [List.length_append, List.length_singleton]; omega, ⟨l', HS2.out⟩, HO2, ⟨(HG2.out.block _ (Nat.lt_of_lt_of_le HL.out HB1.out.size) (fun e => (Kd.R_below HO.out HB1.out).1 _ e.symm rfl)).trans ((HB1.out.block _ HL.out).trans HC.out)⟩, HB2⟩
            case measure => simp [RowKit.intOf]; omega
    · have HS : Aside0 (∃ l', repertoire_List.row 1119 64256 l = some l' ∧ repertoire_List.rest 2 l' = some r1) := ⟨⟨r1, HR.out, rfl⟩⟩
      clear HR
      obtain ⟨wo, hwo⟩ : ∃ wo, wo = wr := ⟨_, rfl⟩
      subst hwo
      have hwr := below_size HB.out
      have hq1 : l.length ≤ 1248 := by omega
      clear hl hq
      go_wp2
      rw [repertoire_List.ix1]
      simp only [Result.andThen]
      rw [Oper.upon_value]
      go_wp2
      go_loopw [4, 1] (fun v4 v1 wc => ∃ (c : Int) (n : Nat) (m : List Int), v4 = .int .i64 c ∧ 64256 ≤ c ∧ c + n = 65375 ∧ m.length + n ≤ l.length + 1119 ∧ Aside0 (∃ l', repertoire_List.row n c m = some l' ∧ repertoire_List.rest 2 l' = some r1) ∧ Aside0 (Kd.R (Kd.int .i64) 3 wc w.heap.size (fun k => k ≠ wo.heap.size) v1 m) ∧ Aside0 (wc.heap[wo.heap.size]? = some (.cells #[.int .i64 64256, .int .i64 65374] 45 (0, 0))) ∧ Aside0 (Below w.heap.size w wc)) (fun v4 _ _ => 65375 - (RowKit.intOf v4).toNat)
      case atStart =>
        refine ⟨64256, 1119, l, rfl, by omega, by omega, by omega, HS, ⟨Kd.R_alloc (Kd.R_mono (Kd.R_bound HO.out) (fun k hk => Nat.ne_of_lt hk.2.2.1)) _⟩, ⟨heap_alloc_new _ _⟩, ⟨HB.out.alloc hwr _⟩⟩
      case round =>
        clear HS HO HB
        obtain ⟨c, n, m, rfl, hlo, hn, hm, HS, HO, HC, HB⟩ := hrel
        have c0 := Lib.cell_of_heap HC.out 0
        have c1 := Lib.cell_of_heap HC.out 1
        simp only [List.getElem?_toArray, List.getElem?_cons_zero, List.getElem?_cons_succ] at c0 c1
        cases n with
        | zero =>
          have hle : ¬ c ≤ 65374 := by omega
          obtain ⟨l', hl', hrest⟩ := HS.out
          simp only [repertoire_List.row, Option.some.injEq] at hl'
          subst hl'
          have HR := Aside0.mk hrest
          clear HS hrest
          go_wp2
          go_roundw
          case rel => exact ⟨2, m, by go_num, by omega, by omega, HR, ⟨Kd.R_mono HO.out (fun _ _ => trivial)⟩, HB⟩
          case measure => simp [RowKit.intOf]
        | succ n =>
          have hle : c ≤ 65374 := by omega
          obtain ⟨l', hl', hrest⟩ := HS.out
          simp only [repertoire_List.row] at hl'
          obtain ⟨h, hH, hl'⟩ := Option.bind_eq_some_iff.1 hl'
          have HH := Aside0.mk hH
          have HS2 := Aside0.mk (And.intro hl' hrest)
          clear HS hrest hH hl'
          cases h with
          | false =>
            go_wp2_with (go_at_call 13; (with_reducible refine (repertoire_Has.calls 8 c false _ HH.out).mono ?_); rintro e w1 ⟨rfl, hb1⟩)
            have hlt : wo.heap.size < wr.heap.size := by
              rcases Nat.lt_or_ge wo.heap.size wr.heap.size with h' | h'
              · exact h'
              · have h2 := HC.out; rw [Array.getElem?_eq_none h'] at h2; cases h2
            go_roundw
            case rel => exact ⟨c + 1, n, m, by go_num, by omega, by omega, by omega, ⟨l', HS2.out⟩, ⟨Kd.R_below HO.out hb1⟩, ⟨(hb1.block _ hlt).trans HC.out⟩, ⟨HB.out.trans (hb1.mono HB.out.size)⟩⟩
            case measure => simp [RowKit.intOf]; omega
          | true =>
            have hlt : wo.heap.size < wr.heap.size := by
              rcases Nat.lt_or_ge wo.heap.size wr.heap.size with h' | h'
              · exact h'
              · have h2 := HC.out; rw [Array.getElem?_eq_none h'] at h2; cases h2
            have HL := Aside0.mk hlt
            clear hlt
            go_wp2_with (first | (go_at_call 13; (with_reducible refine (repertoire_Has.calls 8 c true _ HH.out).mono ?_); rintro e w1 ⟨rfl, hb1⟩; have HB1 := Aside0.mk hb1; clear hb1) | (at_builtin; refine Kd.R_append (Kd.int .i64) (w0 := w) w.heap.size rfl (.tmp 21) (.tmp 23) 26 3 (.int .i64 0) 8 rfl Tryd.underlying26 info3 rfl (by decide) (by omega) _ m c [.int .i64 c] (fun k => k ≠ wo.heap.size) (fun _ => False) rfl rfl rfl (fun _ hk => hk.elim) (fun k hk => by have h1 := HL.out; have h2 := HB1.out.size; omega) (Kd.R_below HO.out HB1.out) (HB.out.trans (HB1.out.mono HB.out.size)) (Nat.le_trans HB.out.size HB1.out.size) (by omega) ?_; intro v1 w2 ho2 hb2 hg2 hat2; have HO2 := Aside0.mk ho2; have HB2 := Aside0.mk hb2; have HG2 := Aside0.mk hg2; clear ho2 hb2 hg2 hat2))
            go_roundw
            case rel =>
              refine ⟨c + 1, n, m ++ [c], by go_num, by omega, by omega, by rw [List.length_append, List.length_singleton]; omega, ⟨l', HS2.out⟩, HO2, ⟨(HG2.out.block _ (Nat.lt_of_lt_of_le HL.out HB1.out.size) (fun e => (Kd.R_below HO.out HB1.out).1 _ e.symm rfl)).trans ((HB1.out.block _ HL.out).trans HC.out)⟩, HB2⟩
            case measure => simp [RowKit.intOf]; omega
    · have HS : Aside0 (l = r1) := ⟨Option.some.inj HR.out⟩
      clear HR
      go_wp2
      go_ret
      exact ⟨_, rfl, by rw [← HS.out]; exact HO.out, HB.out⟩
    · omega

end
end Go.Proofs.YtmmakaheagjpkaaDoor.Pr
