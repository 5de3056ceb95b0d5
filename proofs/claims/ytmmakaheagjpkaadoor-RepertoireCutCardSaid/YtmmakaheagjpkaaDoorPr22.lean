-- printed by wip/tools/pr.py (the kit's print.py, altered in memory) for this claim. Not trusted: Lean checks it.
import Derived.Test.YtmmakaheagjpkaaDoorPr0
import Derived.Test.YtmmakaheagjpkaaDoorPr6
import Derived.Test.YtmmakaheagjpkaaDoorPr7
import Derived.Test.YtmmakaheagjpkaaDoorPr9
import Derived.Test.YtmmakaheagjpkaaDoorPr21
namespace Go.Proofs.YtmmakaheagjpkaaDoor.Pr
open Go.RowKit Go.Proofs.YtmmakaheagjpkaaDoorW.PrintWords Go.Proofs.YtmmakaheagjpkaaDoorW.PrintLast Go.Proofs.YtmmakaheagjpkaaDoorW.PrintMore
noncomputable section
attribute [local go_sem] max2_int min2_int max_two min_two max_three min_three max_four min_four   -- for this text's walks alone
set_option linter.unusedVariables false
set_option linter.unusedSimpArgs false

/-! ### bookplatelaw04_RepertoireCut: function 9 -/
def bookplatelaw04_RepertoireCut.j0 : Nat → ByteArray → Int → ByteArray → Bool → Option (Bool)
  | 0, _, _, _, _ => none
  | k + 1, x0, x1, x5, x35 => if x35 = true then (some false) else ((repertoire_Decode.f k x0).bind fun bt297 => (if bt297.2 = true then ((repertoire_Count.f k x5).bind fun t301 => ((repertoire_Count.f k x0).bind fun t302 => (if t301 = (mx 0 (mn x1 t302)) then (if 0 ≤ (x5.size : Int) then (if (x5.size : Int) ≤ (x0.size : Int) then ((repertoire_Count.f k (x0.extract (x5.size) x0.size)).bind fun t303 => ((repertoire_Count.f k x0).bind fun t304 => ((repertoire_Count.f k x5).bind fun t305 => (some (t303 == (wrap64 (t304 - t305))))))) else (none)) else (none)) else (some false)))) else (some true)))
def bookplatelaw04_RepertoireCut.f (k : Nat) (a0 : ByteArray) (a1 : Int) : Option (Bool) := (bookplatelaw04_awake.f k).bind fun t294 => (if t294 = true then (if (a0.size : Int) > 200 then (some true) else ((repertoire_Cut.f k a0 a1).bind fun t295 => ((bookplateref04_Cut.f k a0 a1).bind fun t296 => (if t295.toList = t296.toList then (if (t295.size : Int) > (a0.size : Int) then (bookplatelaw04_RepertoireCut.j0 k a0 a1 t295 true) else (if 0 ≤ (t295.size : Int) then (if (t295.size : Int) ≤ (a0.size : Int) then (bookplatelaw04_RepertoireCut.j0 k a0 a1 t295 ((a0.extract 0 (t295.size)).toList != t295.toList)) else (none)) else (none))) else (bookplatelaw04_RepertoireCut.j0 k a0 a1 t295 true))))) else (some false))
theorem bookplatelaw04_RepertoireCut.mono_l : ∀ k, (∀ y0 y1 y2 y3, LeO (bookplatelaw04_RepertoireCut.j0 k y0 y1 y2 y3) (bookplatelaw04_RepertoireCut.j0 (k + 1) y0 y1 y2 y3))
  | 0 => fun _ _ _ _ r h => by simp [bookplatelaw04_RepertoireCut.j0] at h
  | k + 1 => by
    have ih0 := bookplatelaw04_RepertoireCut.mono_l k
    · intro y0 y1 y2 y3
      unfold bookplatelaw04_RepertoireCut.j0
      repeat' first
      | (with_reducible exact ih0 _ _ _ _)
      | (with_reducible exact bookplatelaw04_awake.mono _)
      | (with_reducible exact bookplateref04_Cut.mono _ _ _)
      | (with_reducible exact repertoire_Count.mono _ _)
      | (with_reducible exact repertoire_Cut.mono _ _ _)
      | (with_reducible exact repertoire_Decode.mono _ _)
      | (with_reducible exact LeO.refl _)
      | (with_reducible exact LeO.none _)
      | (with_reducible refine LeO.ite ?_ ?_)
      | (with_reducible refine LeO.bind ?_ (fun _ => ?_))
      | exact ih0 _ _ _ _
      | exact bookplatelaw04_awake.mono _
      | exact bookplateref04_Cut.mono _ _ _
      | exact repertoire_Count.mono _ _
      | exact repertoire_Cut.mono _ _ _
      | exact repertoire_Decode.mono _ _
      | exact LeO.none _
      | refine LeO.ite ?_ ?_
      | refine LeO.bind ?_ (fun _ => ?_)
theorem bookplatelaw04_RepertoireCut.mono : ∀ a0 a1 k, LeO (bookplatelaw04_RepertoireCut.f k a0 a1) (bookplatelaw04_RepertoireCut.f (k + 1) a0 a1) := by
  intro a0 a1 k
  have ih0 := bookplatelaw04_RepertoireCut.mono_l k
  unfold bookplatelaw04_RepertoireCut.f
  repeat' first
      | (with_reducible exact ih0 _ _ _ _)
      | (with_reducible exact bookplatelaw04_awake.mono _)
      | (with_reducible exact bookplateref04_Cut.mono _ _ _)
      | (with_reducible exact repertoire_Count.mono _ _)
      | (with_reducible exact repertoire_Cut.mono _ _ _)
      | (with_reducible exact repertoire_Decode.mono _ _)
      | (with_reducible exact LeO.refl _)
      | (with_reducible exact LeO.none _)
      | (with_reducible refine LeO.ite ?_ ?_)
      | (with_reducible refine LeO.bind ?_ (fun _ => ?_))
      | exact ih0 _ _ _ _
      | exact bookplatelaw04_awake.mono _
      | exact bookplateref04_Cut.mono _ _ _
      | exact repertoire_Count.mono _ _
      | exact repertoire_Cut.mono _ _ _
      | exact repertoire_Decode.mono _ _
      | exact LeO.none _
      | refine LeO.ite ?_ ?_
      | refine LeO.bind ?_ (fun _ => ?_)
set_option maxHeartbeats 8000000 in
set_option maxRecDepth 100000 in
theorem bookplatelaw04_RepertoireCut.calls (k : Nat) (a0 : ByteArray) (a1 : Int) (r : Bool) (w : World) (hT : PTabs w) (h : bookplatelaw04_RepertoireCut.f k a0 a1 = some r) :
    Calls Tryd.prog 9 #[.string a0, .int .i64 a1] w fun e w' => e = .returned (.bool r) ∧ Below w.heap.size w w' := by
  have HB := Aside0.mk (Below.refl w.heap.size w)
  have HT := Aside0.mk hT
  clear hT
  have H : ((bookplatelaw04_awake.f k).bind fun t294 => (if t294 = true then (if (a0.size : Int) > 200 then (some true) else ((repertoire_Cut.f k a0 a1).bind fun t295 => ((bookplateref04_Cut.f k a0 a1).bind fun t296 => (if t295.toList = t296.toList then (if (t295.size : Int) > (a0.size : Int) then (bookplatelaw04_RepertoireCut.j0 k a0 a1 t295 true) else (if 0 ≤ (t295.size : Int) then (if (t295.size : Int) ≤ (a0.size : Int) then (bookplatelaw04_RepertoireCut.j0 k a0 a1 t295 ((a0.extract 0 (t295.size)).toList != t295.toList)) else (none)) else (none))) else (bookplatelaw04_RepertoireCut.j0 k a0 a1 t295 true))))) else (some false))) = some r := h
  clear h
  replace H := Option.bind_eq_some_iff.mp H
  obtain ⟨t294, A30, H⟩ := H
  replace H : (if t294 = true then (if (a0.size : Int) > 200 then (some true) else ((repertoire_Cut.f k a0 a1).bind fun t295 => ((bookplateref04_Cut.f k a0 a1).bind fun t296 => (if t295.toList = t296.toList then (if (t295.size : Int) > (a0.size : Int) then (bookplatelaw04_RepertoireCut.j0 k a0 a1 t295 true) else (if 0 ≤ (t295.size : Int) then (if (t295.size : Int) ≤ (a0.size : Int) then (bookplatelaw04_RepertoireCut.j0 k a0 a1 t295 ((a0.extract 0 (t295.size)).toList != t295.toList)) else (none)) else (none))) else (bookplatelaw04_RepertoireCut.j0 k a0 a1 t295 true))))) else (some false)) = some r := H
  have A3 := Aside0.mk A30
  clear A30
  by_cases c4 : t294 = true
  · subst c4
    have H1 : (if (a0.size : Int) > 200 then (some true) else ((repertoire_Cut.f k a0 a1).bind fun t295 => ((bookplateref04_Cut.f k a0 a1).bind fun t296 => (if t295.toList = t296.toList then (if (t295.size : Int) > (a0.size : Int) then (bookplatelaw04_RepertoireCut.j0 k a0 a1 t295 true) else (if 0 ≤ (t295.size : Int) then (if (t295.size : Int) ≤ (a0.size : Int) then (bookplatelaw04_RepertoireCut.j0 k a0 a1 t295 ((a0.extract 0 (t295.size)).toList != t295.toList)) else (none)) else (none))) else (bookplatelaw04_RepertoireCut.j0 k a0 a1 t295 true))))) = some r := by rw [if_pos rfl] at H; exact H
    clear H
    have H := H1
    clear H1
    by_cases c5 : (a0.size : Int) > 200
    · rw [if_pos c5] at H
      have c5b0 : decide (200 < (a0.size : Int)) = true := decide_eq_true c5
      have c5b1 : decide (200 < a0.size) = true := decide_eq_true (by omega)
      clear c5
      obtain rfl := Option.some.inj H
      go_enter Tryd.func9, Tryd.ntmps9
      go_wp2_with (first | ((with_reducible refine gate_callee (f := 10) rfl ?_); refine goesL_ (some 8) rfl rfl Tryd.func10 (by kernel_rfl) rfl #[] rfl (by (try simp only [List.map_toArray, List.map_cons, List.map_nil]); first | done | rfl | (simp only [List.length_drop, List.length_take]; rfl)) ?_; (with_reducible refine (bookplatelaw04_awake.calls k  true _ ?side1 A3.out).mono ?_); (case side1 => exact PTabs.step HT.out (by repeat (first | (with_reducible first | exact HB.out | apply below_alloc | apply pw_below_drewN | apply below_drew1) | exact HB.out))); rintro e w6 ⟨rfl, hb⟩; refine ⟨_, rfl, ?_⟩; have n0_ := Aside0.mk (below_step (by repeat (first | (with_reducible first | exact HB.out | apply below_alloc | apply pw_below_drewN | apply below_drew1) | exact HB.out)) hb); clear HB; have HB := n0_; clear n0_; (try clear hb); (try clear hb2); (try clear hk); (try clear hi)))
      go_ret
      exact ⟨by first | rfl | (simp [errW_none, errW_some] <;> rfl) | (simp [*, errW_none, errW_some] <;> rfl), by repeat (first | (with_reducible first | exact HB.out | apply below_alloc | apply pw_below_drewN | apply below_drew1) | exact HB.out)⟩
    · rw [if_neg c5] at H
      have c5b0 : decide (200 < (a0.size : Int)) = false := decide_eq_false c5
      have c5b1 : decide (200 < a0.size) = false := decide_eq_false (by omega)
      clear c5
      replace H := Option.bind_eq_some_iff.mp H
      obtain ⟨t295, A70, H⟩ := H
      replace H : ((bookplateref04_Cut.f k a0 a1).bind fun t296 => (if t295.toList = t296.toList then (if (t295.size : Int) > (a0.size : Int) then (bookplatelaw04_RepertoireCut.j0 k a0 a1 t295 true) else (if 0 ≤ (t295.size : Int) then (if (t295.size : Int) ≤ (a0.size : Int) then (bookplatelaw04_RepertoireCut.j0 k a0 a1 t295 ((a0.extract 0 (t295.size)).toList != t295.toList)) else (none)) else (none))) else (bookplatelaw04_RepertoireCut.j0 k a0 a1 t295 true))) = some r := H
      have A7 := Aside0.mk A70
      clear A70
      have HC8 := Aside0.mk H
      clear H
      go_enter Tryd.func9, Tryd.ntmps9
      go_upto_region 6 with (first | ((with_reducible refine gate_callee (f := 10) rfl ?_); refine goesL_ (some 8) rfl rfl Tryd.func10 (by kernel_rfl) rfl #[] rfl (by (try simp only [List.map_toArray, List.map_cons, List.map_nil]); first | done | rfl | (simp only [List.length_drop, List.length_take]; rfl)) ?_; (with_reducible refine (bookplatelaw04_awake.calls k  true _ ?side1 A3.out).mono ?_); (case side1 => exact PTabs.step HT.out (by repeat (first | (with_reducible first | exact HB.out | apply below_alloc | apply pw_below_drewN | apply below_drew1) | exact HB.out))); rintro e w9 ⟨rfl, hb⟩; refine ⟨_, rfl, ?_⟩; have n0_ := Aside0.mk (below_step (by repeat (first | (with_reducible first | exact HB.out | apply below_alloc | apply pw_below_drewN | apply below_drew1) | exact HB.out)) hb); clear HB; have HB := n0_; clear n0_; (try clear hb); (try clear hb2); (try clear hk); (try clear hi)) | ((with_reducible refine gate_callee (f := 26) rfl ?_); refine goesL_ (some 15) rfl rfl Tryd.func26 (by kernel_rfl) rfl #[.string a0, .int .i64 a1] rfl (by (try simp only [List.map_toArray, List.map_cons, List.map_nil]); first | done | rfl | (simp only [List.length_drop, List.length_take]; rfl)) ?_; (with_reducible refine (repertoire_Cut.calls k a0 a1 t295 _ ?side1 A7.out).mono ?_); (case side1 => exact PTabs.step HT.out (by repeat (first | (with_reducible first | exact HB.out | apply below_alloc | apply pw_below_drewN | apply below_drew1) | exact HB.out))); rintro e w10 ⟨rfl, hb⟩; refine ⟨_, rfl, ?_⟩; have n0_ := Aside0.mk (below_step (by repeat (first | (with_reducible first | exact HB.out | apply below_alloc | apply pw_below_drewN | apply below_drew1) | exact HB.out)) hb); clear HB; have HB := n0_; clear n0_; (try clear hb); (try clear hb2); (try clear hk); (try clear hi)))
      (try simp only [Act.put, List.setIfInBounds_toArray, List.set_cons_zero, List.set_cons_succ])
      go_cut [35] (fun v35 wc => ∃ (kq : Nat) (x35_7 : Bool), v35 = .bool x35_7 ∧ Aside0 (bookplatelaw04_RepertoireCut.j0 kq a0 a1 t295 x35_7 = some r) ∧ Aside0 (kq ≤ k) ∧ Aside0 (Below w.heap.size w wc))
      case first =>
        have H := HC8.out
        clear HC8
        replace H := Option.bind_eq_some_iff.mp H
        obtain ⟨t296, A110, H⟩ := H
        replace H : (if t295.toList = t296.toList then (if (t295.size : Int) > (a0.size : Int) then (bookplatelaw04_RepertoireCut.j0 k a0 a1 t295 true) else (if 0 ≤ (t295.size : Int) then (if (t295.size : Int) ≤ (a0.size : Int) then (bookplatelaw04_RepertoireCut.j0 k a0 a1 t295 ((a0.extract 0 (t295.size)).toList != t295.toList)) else (none)) else (none))) else (bookplatelaw04_RepertoireCut.j0 k a0 a1 t295 true)) = some r := H
        have A11 := Aside0.mk A110
        clear A110
        by_cases c12 : t295.toList = t296.toList
        · rw [if_pos c12] at H
          have c12b0 : (t295.toList == t296.toList) = true := beq_iff_eq.mpr c12
          have c12b1 : (t295.toList != t296.toList) = false := bne_eq_false_iff_eq.mpr c12
          clear c12
          (first | rw [c12b0] | (simp only [i64_w, i32_w]; rw [c12b0]) | skip)
          by_cases c13 : (t295.size : Int) > (a0.size : Int)
          · rw [if_pos c13] at H
            have c13b0 : decide ((a0.size : Int) < (t295.size : Int)) = true := decide_eq_true c13
            have c13b1 : decide (a0.size < t295.size) = true := decide_eq_true (Int.ofNat_lt.mp c13)
            clear c13
            have H' := Aside0.mk H
            clear H
            go_wp2_with (first | ((with_reducible refine gate_callee (f := 27) rfl ?_); refine goesL_ (some 19) rfl rfl Tryd.func27 (by kernel_rfl) rfl #[.string a0, .int .i64 a1] rfl (by (try simp only [List.map_toArray, List.map_cons, List.map_nil]); first | done | rfl | (simp only [List.length_drop, List.length_take]; rfl)) ?_; (with_reducible refine (bookplateref04_Cut.calls k a0 a1 t296 _ A11.out).mono ?_); rintro e w14 ⟨rfl, hb⟩; refine ⟨_, rfl, ?_⟩; have n0_ := Aside0.mk (below_step (by repeat (first | (with_reducible first | exact HB.out | apply below_alloc | apply pw_below_drewN | apply below_drew1) | exact HB.out)) hb); clear HB; have HB := n0_; clear n0_; (try clear hb); (try clear hb2); (try clear hk); (try clear hi)))
            go_meet
            case rel => exact ⟨_, (true), (by first | rfl | (simp; done) | (simp [*]; done)), H', ⟨by first | omega | exact Nat.le_refl _⟩, ⟨by repeat (first | (with_reducible first | exact HB.out | apply below_alloc | apply pw_below_drewN | apply below_drew1) | exact HB.out)⟩⟩
          · rw [if_neg c13] at H
            have c13b0 : decide ((a0.size : Int) < (t295.size : Int)) = false := decide_eq_false c13
            have c13b1 : decide (a0.size < t295.size) = false := decide_eq_false (fun h => c13 (Int.ofNat_lt.mpr h))
            clear c13
            by_cases c15 : 0 ≤ (t295.size : Int)
            · rw [if_pos c15] at H
              have c15b0 := eq_true c15
              have c15b1 : decide (0 ≤ (t295.size : Int)) = true := decide_eq_true c15
              clear c15
              by_cases c16 : (t295.size : Int) ≤ (a0.size : Int)
              · rw [if_pos c16] at H
                have c16b0 := eq_true c16
                have c16b1 : decide ((t295.size : Int) ≤ (a0.size : Int)) = true := decide_eq_true c16
                clear c16
                have H' := Aside0.mk H
                clear H
                go_wp2_with (first | ((with_reducible refine gate_callee (f := 27) rfl ?_); refine goesL_ (some 19) rfl rfl Tryd.func27 (by kernel_rfl) rfl #[.string a0, .int .i64 a1] rfl (by (try simp only [List.map_toArray, List.map_cons, List.map_nil]); first | done | rfl | (simp only [List.length_drop, List.length_take]; rfl)) ?_; (with_reducible refine (bookplateref04_Cut.calls k a0 a1 t296 _ A11.out).mono ?_); rintro e w17 ⟨rfl, hb⟩; refine ⟨_, rfl, ?_⟩; have n0_ := Aside0.mk (below_step (by repeat (first | (with_reducible first | exact HB.out | apply below_alloc | apply pw_below_drewN | apply below_drew1) | exact HB.out)) hb); clear HB; have HB := n0_; clear n0_; (try clear hb); (try clear hb2); (try clear hk); (try clear hi)))
                go_meet
                case rel => exact ⟨_, (((a0.extract 0 (t295.size)).toList != t295.toList)), (by first | rfl | (simp; done) | (simp [*]; done)), H', ⟨by first | omega | exact Nat.le_refl _⟩, ⟨by repeat (first | (with_reducible first | exact HB.out | apply below_alloc | apply pw_below_drewN | apply below_drew1) | exact HB.out)⟩⟩
              · rw [if_neg c16] at H
                exact absurd H (by simp)
            · rw [if_neg c15] at H
              exact absurd H (by simp)
        · rw [if_neg c12] at H
          have c12b0 : (t295.toList == t296.toList) = false := beq_eq_false_iff_ne.mpr c12
          have c12b1 : (t295.toList != t296.toList) = true := bne_iff_ne.mpr c12
          (first | rw [c12b0] | (simp only [i64_w, i32_w]; rw [c12b0]) | skip)
          have H' := Aside0.mk H
          clear H
          go_wp2_with (first | ((with_reducible refine gate_callee (f := 27) rfl ?_); refine goesL_ (some 19) rfl rfl Tryd.func27 (by kernel_rfl) rfl #[.string a0, .int .i64 a1] rfl (by (try simp only [List.map_toArray, List.map_cons, List.map_nil]); first | done | rfl | (simp only [List.length_drop, List.length_take]; rfl)) ?_; (with_reducible refine (bookplateref04_Cut.calls k a0 a1 t296 _ A11.out).mono ?_); rintro e w18 ⟨rfl, hb⟩; refine ⟨_, rfl, ?_⟩; have n0_ := Aside0.mk (below_step (by repeat (first | (with_reducible first | exact HB.out | apply below_alloc | apply pw_below_drewN | apply below_drew1) | exact HB.out)) hb); clear HB; have HB := n0_; clear n0_; (try clear hb); (try clear hb2); (try clear hk); (try clear hi)))
          go_meet
          case rel => exact ⟨_, (true), (by first | rfl | (simp; done) | (simp [*]; done)), H', ⟨by first | omega | exact Nat.le_refl _⟩, ⟨by repeat (first | (with_reducible first | exact HB.out | apply below_alloc | apply pw_below_drewN | apply below_drew1) | exact HB.out)⟩⟩
      case rest =>
        clear HC8
        try clear c1
        try clear c2
        try clear p2
        try clear c4
        try clear c5
        try clear c5b0
        try clear c5b1
        try clear c9
        try clear c10
        try clear c12
        try clear c12b0
        try clear c12b1
        try clear c13
        try clear c13b0
        try clear c13b1
        try clear c15
        try clear c15b0
        try clear c15b1
        try clear c16
        try clear c16b0
        try clear c16b1
        obtain ⟨kq, x35_7, rfl, HA, HJ7, HB⟩ := hcut
        cases kq with
        | zero => exact absurd HA.out (by simp [bookplatelaw04_RepertoireCut.j0])
        | succ kj7 =>
          have H := HA.out
          clear HA
          simp only [bookplatelaw04_RepertoireCut.j0] at H
          by_cases c19 : x35_7 = true
          · subst c19
            have H1 : (some false) = some r := by rw [if_pos rfl] at H; exact H
            clear H
            have H := H1
            clear H1
            obtain rfl := Option.some.inj H
            go_wp2
            go_ret
            exact ⟨by first | rfl | ((try rw [← Option.some.inj (A3.out.symm.trans A7.out)]); (try rw [← Option.some.inj (A3.out.symm.trans A11.out)]); (try rw [← Option.some.inj (A7.out.symm.trans A11.out)]); rfl) | (simp [errW_none, errW_some] <;> rfl) | (simp [*, errW_none, errW_some] <;> rfl), by repeat (first | (with_reducible first | exact HB.out | apply below_alloc | apply pw_below_drewN | apply below_drew1) | exact HB.out)⟩
          · replace c19 := Bool.eq_false_iff.mpr c19
            subst c19
            have H1 : ((repertoire_Decode.f kj7 a0).bind fun bt297 => (if bt297.2 = true then ((repertoire_Count.f kj7 t295).bind fun t301 => ((repertoire_Count.f kj7 a0).bind fun t302 => (if t301 = (mx 0 (mn a1 t302)) then (if 0 ≤ (t295.size : Int) then (if (t295.size : Int) ≤ (a0.size : Int) then ((repertoire_Count.f kj7 (a0.extract (t295.size) a0.size)).bind fun t303 => ((repertoire_Count.f kj7 a0).bind fun t304 => ((repertoire_Count.f kj7 t295).bind fun t305 => (some (t303 == (wrap64 (t304 - t305))))))) else (none)) else (none)) else (some false)))) else (some true))) = some r := by rw [if_neg (show ¬ (false = true) by decide)] at H; exact H
            clear H
            have H := H1
            clear H1
            replace H := Option.bind_eq_some_iff.mp H
            obtain ⟨⟨t297, t298⟩, A200, H⟩ := H
            replace H : (if t298 = true then ((repertoire_Count.f kj7 t295).bind fun t301 => ((repertoire_Count.f kj7 a0).bind fun t302 => (if t301 = (mx 0 (mn a1 t302)) then (if 0 ≤ (t295.size : Int) then (if (t295.size : Int) ≤ (a0.size : Int) then ((repertoire_Count.f kj7 (a0.extract (t295.size) a0.size)).bind fun t303 => ((repertoire_Count.f kj7 a0).bind fun t304 => ((repertoire_Count.f kj7 t295).bind fun t305 => (some (t303 == (wrap64 (t304 - t305))))))) else (none)) else (none)) else (some false)))) else (some true)) = some r := H
            have A20 := Aside0.mk A200
            clear A200
            by_cases c21 : t298 = true
            · subst c21
              have H1 : ((repertoire_Count.f kj7 t295).bind fun t301 => ((repertoire_Count.f kj7 a0).bind fun t302 => (if t301 = (mx 0 (mn a1 t302)) then (if 0 ≤ (t295.size : Int) then (if (t295.size : Int) ≤ (a0.size : Int) then ((repertoire_Count.f kj7 (a0.extract (t295.size) a0.size)).bind fun t303 => ((repertoire_Count.f kj7 a0).bind fun t304 => ((repertoire_Count.f kj7 t295).bind fun t305 => (some (t303 == (wrap64 (t304 - t305))))))) else (none)) else (none)) else (some false)))) = some r := by rw [if_pos rfl] at H; exact H
              clear H
              have H := H1
              clear H1
              replace H := Option.bind_eq_some_iff.mp H
              obtain ⟨t301, A220, H⟩ := H
              replace H : ((repertoire_Count.f kj7 a0).bind fun t302 => (if t301 = (mx 0 (mn a1 t302)) then (if 0 ≤ (t295.size : Int) then (if (t295.size : Int) ≤ (a0.size : Int) then ((repertoire_Count.f kj7 (a0.extract (t295.size) a0.size)).bind fun t303 => ((repertoire_Count.f kj7 a0).bind fun t304 => ((repertoire_Count.f kj7 t295).bind fun t305 => (some (t303 == (wrap64 (t304 - t305))))))) else (none)) else (none)) else (some false))) = some r := H
              have A22 := Aside0.mk A220
              clear A220
              replace H := Option.bind_eq_some_iff.mp H
              obtain ⟨t302, A230, H⟩ := H
              replace H : (if t301 = (mx 0 (mn a1 t302)) then (if 0 ≤ (t295.size : Int) then (if (t295.size : Int) ≤ (a0.size : Int) then ((repertoire_Count.f kj7 (a0.extract (t295.size) a0.size)).bind fun t303 => ((repertoire_Count.f kj7 a0).bind fun t304 => ((repertoire_Count.f kj7 t295).bind fun t305 => (some (t303 == (wrap64 (t304 - t305))))))) else (none)) else (none)) else (some false)) = some r := H
              have A23 := Aside0.mk A230
              clear A230
              obtain ⟨ji24, hji24⟩ : ∃ j_ : Int, (mn a1 t302) = j_ := ⟨_, rfl⟩
              replace H : (if t301 = (mx 0 (ji24)) then (if 0 ≤ (t295.size : Int) then (if (t295.size : Int) ≤ (a0.size : Int) then ((repertoire_Count.f kj7 (a0.extract (t295.size) a0.size)).bind fun t303 => ((repertoire_Count.f kj7 a0).bind fun t304 => ((repertoire_Count.f kj7 t295).bind fun t305 => (some (t303 == (wrap64 (t304 - t305))))))) else (none)) else (none)) else (some false)) = some r := by first | (rw [hji24] at H; exact H) | (simp only [hji24] at H ⊢; exact H)
              (try rw [hji24] at A20)
              (try rw [hji24] at A22)
              (try rw [hji24] at A23)
              have hji24_ : (if t302 < a1 then t302 else a1) = ji24 := hji24
              obtain ⟨ji25, hji25⟩ : ∃ j_ : Int, (mx 0 (ji24)) = j_ := ⟨_, rfl⟩
              replace H : (if t301 = (ji25) then (if 0 ≤ (t295.size : Int) then (if (t295.size : Int) ≤ (a0.size : Int) then ((repertoire_Count.f kj7 (a0.extract (t295.size) a0.size)).bind fun t303 => ((repertoire_Count.f kj7 a0).bind fun t304 => ((repertoire_Count.f kj7 t295).bind fun t305 => (some (t303 == (wrap64 (t304 - t305))))))) else (none)) else (none)) else (some false)) = some r := by first | (rw [hji25] at H; exact H) | (simp only [hji25] at H ⊢; exact H)
              (try rw [hji25] at A20)
              (try rw [hji25] at A22)
              (try rw [hji25] at A23)
              have hji25_ : (if 0 < (ji24) then (ji24) else 0) = ji25 := hji25
              by_cases c26 : t301 = (ji25)
              · rw [if_pos c26] at H
                have c26b0 : (t301 == (ji25)) = true := beq_iff_eq.mpr c26
                have c26b1 : (t301 != (ji25)) = false := bne_eq_false_iff_eq.mpr c26
                clear c26
                by_cases c27 : 0 ≤ (t295.size : Int)
                · rw [if_pos c27] at H
                  have c27b0 := eq_true c27
                  have c27b1 : decide (0 ≤ (t295.size : Int)) = true := decide_eq_true c27
                  clear c27
                  by_cases c28 : (t295.size : Int) ≤ (a0.size : Int)
                  · rw [if_pos c28] at H
                    have c28b0 := eq_true c28
                    have c28b1 : decide ((t295.size : Int) ≤ (a0.size : Int)) = true := decide_eq_true c28
                    clear c28
                    replace H := Option.bind_eq_some_iff.mp H
                    obtain ⟨t303, A290, H⟩ := H
                    replace H : ((repertoire_Count.f kj7 a0).bind fun t304 => ((repertoire_Count.f kj7 t295).bind fun t305 => (some (t303 == (wrap64 (t304 - t305)))))) = some r := H
                    have A29 := Aside0.mk A290
                    clear A290
                    replace H := Option.bind_eq_some_iff.mp H
                    obtain ⟨t304, A300, H⟩ := H
                    replace H : ((repertoire_Count.f kj7 t295).bind fun t305 => (some (t303 == (wrap64 (t304 - t305))))) = some r := H
                    have A30 := Aside0.mk A300
                    clear A300
                    replace H := Option.bind_eq_some_iff.mp H
                    obtain ⟨t305, A310, H⟩ := H
                    replace H : (some (t303 == (wrap64 (t304 - t305)))) = some r := H
                    have A31 := Aside0.mk A310
                    clear A310
                    obtain rfl := Option.some.inj H
                    go_wp2_with (first | ((with_reducible refine gate_callee (f := 14) rfl ?_); refine goesL_ (some 38) rfl rfl Tryd.func14 (by kernel_rfl) rfl #[.string a0] rfl (by (try simp only [List.map_toArray, List.map_cons, List.map_nil]); first | done | rfl | (simp only [List.length_drop, List.length_take]; rfl)) ?_; (with_reducible refine (repertoire_Decode.calls kj7 a0 t297 true _ ?side1 A20.out).mono ?_); (case side1 => exact PTabs.step HT.out (by repeat (first | (with_reducible first | exact HB.out | apply below_alloc | apply pw_below_drewN | apply below_drew1) | exact HB.out))); rintro e w32 ⟨v299, rfl, ho0, hb⟩; refine ⟨_, rfl, ?_⟩; have n0_ := Aside0.mk (Kd.R_lower ho0 (below_size (by repeat (first | (with_reducible first | exact HB.out | apply below_alloc | apply pw_below_drewN | apply below_drew1) | exact HB.out)))); have n1_ := Aside0.mk (below_step (by repeat (first | (with_reducible first | exact HB.out | apply below_alloc | apply pw_below_drewN | apply below_drew1) | exact HB.out)) hb); clear HB; have HO300 := n0_; have HB := n1_; clear n0_ n1_; (try clear hb); (try clear hb2); (try clear hk); (try clear hi); (try clear ho0)) | (go_at_call 17; (with_reducible refine (repertoire_Count.calls kj7 t295 t301 _ ?side1 A22.out).mono ?_); (case side1 => exact PTabs.step HT.out (by repeat (first | (with_reducible first | exact HB.out | apply below_alloc | apply pw_below_drewN | apply below_drew1) | exact HB.out))); rintro e w33 ⟨rfl, hb⟩; have n0_ := Aside0.mk (Kd.R_below (by (with_reducible repeat (first | apply Kd.R_alloc | apply Kd.R_drewN | apply Kd.R_drew)); exact HO300.out) hb); have n1_ := Aside0.mk (below_step (by repeat (first | (with_reducible first | exact HB.out | apply below_alloc | apply pw_below_drewN | apply below_drew1) | exact HB.out)) hb); clear HO300; clear HB; have HO300 := n0_; have HB := n1_; clear n0_ n1_; (try clear hb); (try clear hb2); (try clear hk); (try clear hi)) | (go_at_call 17; (with_reducible refine (repertoire_Count.calls kj7 a0 t302 _ ?side1 A23.out).mono ?_); (case side1 => exact PTabs.step HT.out (by repeat (first | (with_reducible first | exact HB.out | apply below_alloc | apply pw_below_drewN | apply below_drew1) | exact HB.out))); rintro e w34 ⟨rfl, hb⟩; have n0_ := Aside0.mk (Kd.R_below (by (with_reducible repeat (first | apply Kd.R_alloc | apply Kd.R_drewN | apply Kd.R_drew)); exact HO300.out) hb); have n1_ := Aside0.mk (below_step (by repeat (first | (with_reducible first | exact HB.out | apply below_alloc | apply pw_below_drewN | apply below_drew1) | exact HB.out)) hb); clear HO300; clear HB; have HO300 := n0_; have HB := n1_; clear n0_ n1_; (try clear hb); (try clear hb2); (try clear hk); (try clear hi)) | (go_at_call 17; (with_reducible refine (repertoire_Count.calls kj7 (a0.extract (t295.size) a0.size) t303 _ ?side1 A29.out).mono ?_); (case side1 => exact PTabs.step HT.out (by repeat (first | (with_reducible first | exact HB.out | apply below_alloc | apply pw_below_drewN | apply below_drew1) | exact HB.out))); rintro e w35 ⟨rfl, hb⟩; have n0_ := Aside0.mk (Kd.R_below (by (with_reducible repeat (first | apply Kd.R_alloc | apply Kd.R_drewN | apply Kd.R_drew)); exact HO300.out) hb); have n1_ := Aside0.mk (below_step (by repeat (first | (with_reducible first | exact HB.out | apply below_alloc | apply pw_below_drewN | apply below_drew1) | exact HB.out)) hb); clear HO300; clear HB; have HO300 := n0_; have HB := n1_; clear n0_ n1_; (try clear hb); (try clear hb2); (try clear hk); (try clear hi)) | (go_at_call 17; (with_reducible refine (repertoire_Count.calls kj7 a0 t304 _ ?side1 A30.out).mono ?_); (case side1 => exact PTabs.step HT.out (by repeat (first | (with_reducible first | exact HB.out | apply below_alloc | apply pw_below_drewN | apply below_drew1) | exact HB.out))); rintro e w36 ⟨rfl, hb⟩; have n0_ := Aside0.mk (Kd.R_below (by (with_reducible repeat (first | apply Kd.R_alloc | apply Kd.R_drewN | apply Kd.R_drew)); exact HO300.out) hb); have n1_ := Aside0.mk (below_step (by repeat (first | (with_reducible first | exact HB.out | apply below_alloc | apply pw_below_drewN | apply below_drew1) | exact HB.out)) hb); clear HO300; clear HB; have HO300 := n0_; have HB := n1_; clear n0_ n1_; (try clear hb); (try clear hb2); (try clear hk); (try clear hi)) | (go_at_call 17; (with_reducible refine (repertoire_Count.calls kj7 t295 t305 _ ?side1 A31.out).mono ?_); (case side1 => exact PTabs.step HT.out (by repeat (first | (with_reducible first | exact HB.out | apply below_alloc | apply pw_below_drewN | apply below_drew1) | exact HB.out))); rintro e w37 ⟨rfl, hb⟩; have n0_ := Aside0.mk (Kd.R_below (by (with_reducible repeat (first | apply Kd.R_alloc | apply Kd.R_drewN | apply Kd.R_drew)); exact HO300.out) hb); have n1_ := Aside0.mk (below_step (by repeat (first | (with_reducible first | exact HB.out | apply below_alloc | apply pw_below_drewN | apply below_drew1) | exact HB.out)) hb); clear HO300; clear HB; have HO300 := n0_; have HB := n1_; clear n0_ n1_; (try clear hb); (try clear hb2); (try clear hk); (try clear hi)))
                    go_ret
                    exact ⟨by first | rfl | ((try rw [← Option.some.inj (A3.out.symm.trans A7.out)]); (try rw [← Option.some.inj (A3.out.symm.trans A11.out)]); (try rw [← Option.some.inj (A3.out.symm.trans A20.out)]); (try rw [← Option.some.inj (A3.out.symm.trans A22.out)]); (try rw [← Option.some.inj (A3.out.symm.trans A23.out)]); (try rw [← Option.some.inj (A3.out.symm.trans A29.out)]); (try rw [← Option.some.inj (A3.out.symm.trans A30.out)]); (try rw [← Option.some.inj (A3.out.symm.trans A31.out)]); (try rw [← Option.some.inj (A7.out.symm.trans A11.out)]); (try rw [← Option.some.inj (A7.out.symm.trans A20.out)]); (try rw [← Option.some.inj (A7.out.symm.trans A22.out)]); (try rw [← Option.some.inj (A7.out.symm.trans A23.out)]); (try rw [← Option.some.inj (A7.out.symm.trans A29.out)]); (try rw [← Option.some.inj (A7.out.symm.trans A30.out)]); (try rw [← Option.some.inj (A7.out.symm.trans A31.out)]); (try rw [← Option.some.inj (A11.out.symm.trans A20.out)]); (try rw [← Option.some.inj (A11.out.symm.trans A22.out)]); (try rw [← Option.some.inj (A11.out.symm.trans A23.out)]); (try rw [← Option.some.inj (A11.out.symm.trans A29.out)]); (try rw [← Option.some.inj (A11.out.symm.trans A30.out)]); (try rw [← Option.some.inj (A11.out.symm.trans A31.out)]); (try rw [← Option.some.inj (A20.out.symm.trans A22.out)]); (try rw [← Option.some.inj (A20.out.symm.trans A23.out)]); (try rw [← Option.some.inj (A20.out.symm.trans A29.out)]); (try rw [← Option.some.inj (A20.out.symm.trans A30.out)]); (try rw [← Option.some.inj (A20.out.symm.trans A31.out)]); (try rw [← Option.some.inj (A22.out.symm.trans A23.out)]); (try rw [← Option.some.inj (A22.out.symm.trans A29.out)]); (try rw [← Option.some.inj (A22.out.symm.trans A30.out)]); (try rw [← Option.some.inj (A22.out.symm.trans A31.out)]); (try rw [← Option.some.inj (A23.out.symm.trans A29.out)]); (try rw [← Option.some.inj (A23.out.symm.trans A30.out)]); (try rw [← Option.some.inj (A23.out.symm.trans A31.out)]); (try rw [← Option.some.inj (A29.out.symm.trans A30.out)]); (try rw [← Option.some.inj (A29.out.symm.trans A31.out)]); (try rw [← Option.some.inj (A30.out.symm.trans A31.out)]); rfl) | (simp [errW_none, errW_some] <;> rfl) | (simp only [← hji24, ← hji25]; first | rfl | (simp [errW_none, errW_some] <;> rfl)) | (simp [*, errW_none, errW_some] <;> rfl), by repeat (first | (with_reducible first | exact HB.out | apply below_alloc | apply pw_below_drewN | apply below_drew1) | exact HB.out)⟩
                  · rw [if_neg c28] at H
                    exact absurd H (by simp)
                · rw [if_neg c27] at H
                  exact absurd H (by simp)
              · rw [if_neg c26] at H
                have c26b0 : (t301 == (ji25)) = false := beq_eq_false_iff_ne.mpr c26
                have c26b1 : (t301 != (ji25)) = true := bne_iff_ne.mpr c26
                obtain rfl := Option.some.inj H
                go_wp2_with (first | ((with_reducible refine gate_callee (f := 14) rfl ?_); refine goesL_ (some 38) rfl rfl Tryd.func14 (by kernel_rfl) rfl #[.string a0] rfl (by (try simp only [List.map_toArray, List.map_cons, List.map_nil]); first | done | rfl | (simp only [List.length_drop, List.length_take]; rfl)) ?_; (with_reducible refine (repertoire_Decode.calls kj7 a0 t297 true _ ?side1 A20.out).mono ?_); (case side1 => exact PTabs.step HT.out (by repeat (first | (with_reducible first | exact HB.out | apply below_alloc | apply pw_below_drewN | apply below_drew1) | exact HB.out))); rintro e w38 ⟨v299, rfl, ho0, hb⟩; refine ⟨_, rfl, ?_⟩; have n0_ := Aside0.mk (Kd.R_lower ho0 (below_size (by repeat (first | (with_reducible first | exact HB.out | apply below_alloc | apply pw_below_drewN | apply below_drew1) | exact HB.out)))); have n1_ := Aside0.mk (below_step (by repeat (first | (with_reducible first | exact HB.out | apply below_alloc | apply pw_below_drewN | apply below_drew1) | exact HB.out)) hb); clear HB; have HO300 := n0_; have HB := n1_; clear n0_ n1_; (try clear hb); (try clear hb2); (try clear hk); (try clear hi); (try clear ho0)) | (go_at_call 17; (with_reducible refine (repertoire_Count.calls kj7 t295 t301 _ ?side1 A22.out).mono ?_); (case side1 => exact PTabs.step HT.out (by repeat (first | (with_reducible first | exact HB.out | apply below_alloc | apply pw_below_drewN | apply below_drew1) | exact HB.out))); rintro e w39 ⟨rfl, hb⟩; have n0_ := Aside0.mk (Kd.R_below (by (with_reducible repeat (first | apply Kd.R_alloc | apply Kd.R_drewN | apply Kd.R_drew)); exact HO300.out) hb); have n1_ := Aside0.mk (below_step (by repeat (first | (with_reducible first | exact HB.out | apply below_alloc | apply pw_below_drewN | apply below_drew1) | exact HB.out)) hb); clear HO300; clear HB; have HO300 := n0_; have HB := n1_; clear n0_ n1_; (try clear hb); (try clear hb2); (try clear hk); (try clear hi)) | (go_at_call 17; (with_reducible refine (repertoire_Count.calls kj7 a0 t302 _ ?side1 A23.out).mono ?_); (case side1 => exact PTabs.step HT.out (by repeat (first | (with_reducible first | exact HB.out | apply below_alloc | apply pw_below_drewN | apply below_drew1) | exact HB.out))); rintro e w40 ⟨rfl, hb⟩; have n0_ := Aside0.mk (Kd.R_below (by (with_reducible repeat (first | apply Kd.R_alloc | apply Kd.R_drewN | apply Kd.R_drew)); exact HO300.out) hb); have n1_ := Aside0.mk (below_step (by repeat (first | (with_reducible first | exact HB.out | apply below_alloc | apply pw_below_drewN | apply below_drew1) | exact HB.out)) hb); clear HO300; clear HB; have HO300 := n0_; have HB := n1_; clear n0_ n1_; (try clear hb); (try clear hb2); (try clear hk); (try clear hi)))
                go_ret
                exact ⟨by first | rfl | ((try rw [← Option.some.inj (A3.out.symm.trans A7.out)]); (try rw [← Option.some.inj (A3.out.symm.trans A11.out)]); (try rw [← Option.some.inj (A3.out.symm.trans A20.out)]); (try rw [← Option.some.inj (A3.out.symm.trans A22.out)]); (try rw [← Option.some.inj (A3.out.symm.trans A23.out)]); (try rw [← Option.some.inj (A3.out.symm.trans A29.out)]); (try rw [← Option.some.inj (A3.out.symm.trans A30.out)]); (try rw [← Option.some.inj (A3.out.symm.trans A31.out)]); (try rw [← Option.some.inj (A7.out.symm.trans A11.out)]); (try rw [← Option.some.inj (A7.out.symm.trans A20.out)]); (try rw [← Option.some.inj (A7.out.symm.trans A22.out)]); (try rw [← Option.some.inj (A7.out.symm.trans A23.out)]); (try rw [← Option.some.inj (A7.out.symm.trans A29.out)]); (try rw [← Option.some.inj (A7.out.symm.trans A30.out)]); (try rw [← Option.some.inj (A7.out.symm.trans A31.out)]); (try rw [← Option.some.inj (A11.out.symm.trans A20.out)]); (try rw [← Option.some.inj (A11.out.symm.trans A22.out)]); (try rw [← Option.some.inj (A11.out.symm.trans A23.out)]); (try rw [← Option.some.inj (A11.out.symm.trans A29.out)]); (try rw [← Option.some.inj (A11.out.symm.trans A30.out)]); (try rw [← Option.some.inj (A11.out.symm.trans A31.out)]); (try rw [← Option.some.inj (A20.out.symm.trans A22.out)]); (try rw [← Option.some.inj (A20.out.symm.trans A23.out)]); (try rw [← Option.some.inj (A20.out.symm.trans A29.out)]); (try rw [← Option.some.inj (A20.out.symm.trans A30.out)]); (try rw [← Option.some.inj (A20.out.symm.trans A31.out)]); (try rw [← Option.some.inj (A22.out.symm.trans A23.out)]); (try rw [← Option.some.inj (A22.out.symm.trans A29.out)]); (try rw [← Option.some.inj (A22.out.symm.trans A30.out)]); (try rw [← Option.some.inj (A22.out.symm.trans A31.out)]); (try rw [← Option.some.inj (A23.out.symm.trans A29.out)]); (try rw [← Option.some.inj (A23.out.symm.trans A30.out)]); (try rw [← Option.some.inj (A23.out.symm.trans A31.out)]); (try rw [← Option.some.inj (A29.out.symm.trans A30.out)]); (try rw [← Option.some.inj (A29.out.symm.trans A31.out)]); (try rw [← Option.some.inj (A30.out.symm.trans A31.out)]); rfl) | (simp [errW_none, errW_some] <;> rfl) | (simp only [← hji24, ← hji25]; first | rfl | (simp [errW_none, errW_some] <;> rfl)) | (simp [*, errW_none, errW_some] <;> rfl), by repeat (first | (with_reducible first | exact HB.out | apply below_alloc | apply pw_below_drewN | apply below_drew1) | exact HB.out)⟩
            · replace c21 := Bool.eq_false_iff.mpr c21
              subst c21
              have H1 : (some true) = some r := by rw [if_neg (show ¬ (false = true) by decide)] at H; exact H
              clear H
              have H := H1
              clear H1
              obtain rfl := Option.some.inj H
              go_wp2_with (first | ((with_reducible refine gate_callee (f := 14) rfl ?_); refine goesL_ (some 38) rfl rfl Tryd.func14 (by kernel_rfl) rfl #[.string a0] rfl (by (try simp only [List.map_toArray, List.map_cons, List.map_nil]); first | done | rfl | (simp only [List.length_drop, List.length_take]; rfl)) ?_; (with_reducible refine (repertoire_Decode.calls kj7 a0 t297 false _ ?side1 A20.out).mono ?_); (case side1 => exact PTabs.step HT.out (by repeat (first | (with_reducible first | exact HB.out | apply below_alloc | apply pw_below_drewN | apply below_drew1) | exact HB.out))); rintro e w41 ⟨v299, rfl, ho0, hb⟩; refine ⟨_, rfl, ?_⟩; have n0_ := Aside0.mk (Kd.R_lower ho0 (below_size (by repeat (first | (with_reducible first | exact HB.out | apply below_alloc | apply pw_below_drewN | apply below_drew1) | exact HB.out)))); have n1_ := Aside0.mk (below_step (by repeat (first | (with_reducible first | exact HB.out | apply below_alloc | apply pw_below_drewN | apply below_drew1) | exact HB.out)) hb); clear HB; have HO300 := n0_; have HB := n1_; clear n0_ n1_; (try clear hb); (try clear hb2); (try clear hk); (try clear hi); (try clear ho0)))
              go_ret
              exact ⟨by first | rfl | ((try rw [← Option.some.inj (A3.out.symm.trans A7.out)]); (try rw [← Option.some.inj (A3.out.symm.trans A11.out)]); (try rw [← Option.some.inj (A3.out.symm.trans A20.out)]); (try rw [← Option.some.inj (A3.out.symm.trans A22.out)]); (try rw [← Option.some.inj (A3.out.symm.trans A23.out)]); (try rw [← Option.some.inj (A3.out.symm.trans A29.out)]); (try rw [← Option.some.inj (A3.out.symm.trans A30.out)]); (try rw [← Option.some.inj (A3.out.symm.trans A31.out)]); (try rw [← Option.some.inj (A7.out.symm.trans A11.out)]); (try rw [← Option.some.inj (A7.out.symm.trans A20.out)]); (try rw [← Option.some.inj (A7.out.symm.trans A22.out)]); (try rw [← Option.some.inj (A7.out.symm.trans A23.out)]); (try rw [← Option.some.inj (A7.out.symm.trans A29.out)]); (try rw [← Option.some.inj (A7.out.symm.trans A30.out)]); (try rw [← Option.some.inj (A7.out.symm.trans A31.out)]); (try rw [← Option.some.inj (A11.out.symm.trans A20.out)]); (try rw [← Option.some.inj (A11.out.symm.trans A22.out)]); (try rw [← Option.some.inj (A11.out.symm.trans A23.out)]); (try rw [← Option.some.inj (A11.out.symm.trans A29.out)]); (try rw [← Option.some.inj (A11.out.symm.trans A30.out)]); (try rw [← Option.some.inj (A11.out.symm.trans A31.out)]); (try rw [← Option.some.inj (A20.out.symm.trans A22.out)]); (try rw [← Option.some.inj (A20.out.symm.trans A23.out)]); (try rw [← Option.some.inj (A20.out.symm.trans A29.out)]); (try rw [← Option.some.inj (A20.out.symm.trans A30.out)]); (try rw [← Option.some.inj (A20.out.symm.trans A31.out)]); (try rw [← Option.some.inj (A22.out.symm.trans A23.out)]); (try rw [← Option.some.inj (A22.out.symm.trans A29.out)]); (try rw [← Option.some.inj (A22.out.symm.trans A30.out)]); (try rw [← Option.some.inj (A22.out.symm.trans A31.out)]); (try rw [← Option.some.inj (A23.out.symm.trans A29.out)]); (try rw [← Option.some.inj (A23.out.symm.trans A30.out)]); (try rw [← Option.some.inj (A23.out.symm.trans A31.out)]); (try rw [← Option.some.inj (A29.out.symm.trans A30.out)]); (try rw [← Option.some.inj (A29.out.symm.trans A31.out)]); (try rw [← Option.some.inj (A30.out.symm.trans A31.out)]); rfl) | (simp [errW_none, errW_some] <;> rfl) | (simp [*, errW_none, errW_some] <;> rfl), by repeat (first | (with_reducible first | exact HB.out | apply below_alloc | apply pw_below_drewN | apply below_drew1) | exact HB.out)⟩
  · replace c4 := Bool.eq_false_iff.mpr c4
    subst c4
    have H1 : (some false) = some r := by rw [if_neg (show ¬ (false = true) by decide)] at H; exact H
    clear H
    have H := H1
    clear H1
    obtain rfl := Option.some.inj H
    go_enter Tryd.func9, Tryd.ntmps9
    go_wp2_with (first | ((with_reducible refine gate_callee (f := 10) rfl ?_); refine goesL_ (some 8) rfl rfl Tryd.func10 (by kernel_rfl) rfl #[] rfl (by (try simp only [List.map_toArray, List.map_cons, List.map_nil]); first | done | rfl | (simp only [List.length_drop, List.length_take]; rfl)) ?_; (with_reducible refine (bookplatelaw04_awake.calls k  false _ ?side1 A3.out).mono ?_); (case side1 => exact PTabs.step HT.out (by repeat (first | (with_reducible first | exact HB.out | apply below_alloc | apply pw_below_drewN | apply below_drew1) | exact HB.out))); rintro e w42 ⟨rfl, hb⟩; refine ⟨_, rfl, ?_⟩; have n0_ := Aside0.mk (below_step (by repeat (first | (with_reducible first | exact HB.out | apply below_alloc | apply pw_below_drewN | apply below_drew1) | exact HB.out)) hb); clear HB; have HB := n0_; clear n0_; (try clear hb); (try clear hb2); (try clear hk); (try clear hi)))
    go_ret
    exact ⟨by first | rfl | ((try rw [← Option.some.inj (A3.out.symm.trans A7.out)]); (try rw [← Option.some.inj (A3.out.symm.trans A11.out)]); (try rw [← Option.some.inj (A3.out.symm.trans A20.out)]); (try rw [← Option.some.inj (A3.out.symm.trans A22.out)]); (try rw [← Option.some.inj (A3.out.symm.trans A23.out)]); (try rw [← Option.some.inj (A3.out.symm.trans A29.out)]); (try rw [← Option.some.inj (A3.out.symm.trans A30.out)]); (try rw [← Option.some.inj (A3.out.symm.trans A31.out)]); (try rw [← Option.some.inj (A7.out.symm.trans A11.out)]); (try rw [← Option.some.inj (A7.out.symm.trans A20.out)]); (try rw [← Option.some.inj (A7.out.symm.trans A22.out)]); (try rw [← Option.some.inj (A7.out.symm.trans A23.out)]); (try rw [← Option.some.inj (A7.out.symm.trans A29.out)]); (try rw [← Option.some.inj (A7.out.symm.trans A30.out)]); (try rw [← Option.some.inj (A7.out.symm.trans A31.out)]); (try rw [← Option.some.inj (A11.out.symm.trans A20.out)]); (try rw [← Option.some.inj (A11.out.symm.trans A22.out)]); (try rw [← Option.some.inj (A11.out.symm.trans A23.out)]); (try rw [← Option.some.inj (A11.out.symm.trans A29.out)]); (try rw [← Option.some.inj (A11.out.symm.trans A30.out)]); (try rw [← Option.some.inj (A11.out.symm.trans A31.out)]); (try rw [← Option.some.inj (A20.out.symm.trans A22.out)]); (try rw [← Option.some.inj (A20.out.symm.trans A23.out)]); (try rw [← Option.some.inj (A20.out.symm.trans A29.out)]); (try rw [← Option.some.inj (A20.out.symm.trans A30.out)]); (try rw [← Option.some.inj (A20.out.symm.trans A31.out)]); (try rw [← Option.some.inj (A22.out.symm.trans A23.out)]); (try rw [← Option.some.inj (A22.out.symm.trans A29.out)]); (try rw [← Option.some.inj (A22.out.symm.trans A30.out)]); (try rw [← Option.some.inj (A22.out.symm.trans A31.out)]); (try rw [← Option.some.inj (A23.out.symm.trans A29.out)]); (try rw [← Option.some.inj (A23.out.symm.trans A30.out)]); (try rw [← Option.some.inj (A23.out.symm.trans A31.out)]); (try rw [← Option.some.inj (A29.out.symm.trans A30.out)]); (try rw [← Option.some.inj (A29.out.symm.trans A31.out)]); (try rw [← Option.some.inj (A30.out.symm.trans A31.out)]); rfl) | (simp [errW_none, errW_some] <;> rfl) | (simp [*, errW_none, errW_some] <;> rfl), by repeat (first | (with_reducible first | exact HB.out | apply below_alloc | apply pw_below_drewN | apply below_drew1) | exact HB.out)⟩

/-- THE ONE PURE STATEMENT of bookplatelaw04_RepertoireCut: yours. -/
def bookplatelaw04_RepertoireCut.Pure : Prop := ∀ (a0 : ByteArray) (a1 : Int), a0.size ≤ 140737488351232 → (Lit.int .i64 a1).wf = true → ∃ k, bookplatelaw04_RepertoireCut.f k a0 a1 = some true
theorem bookplatelaw04_RepertoireCut.walk (P : bookplatelaw04_RepertoireCut.Pure) (a0 : ByteArray) (a1 : Int) (w : World) (hT : PTabs w) (w0 : a0.size ≤ 140737488351232) (w1 : (Lit.int .i64 a1).wf = true) :
    Calls Tryd.prog 9 #[.string a0, .int .i64 a1] w fun e w' => e = .returned (.bool true) ∧ Below w.heap.size w w' := by
  obtain ⟨k, h⟩ := P a0 a1 w0 w1
  refine (bookplatelaw04_RepertoireCut.calls k a0 a1 true w hT h).mono ?_
  rintro e w' ⟨rfl, hd⟩
  exact ⟨rfl, hd⟩

end
end Go.Proofs.YtmmakaheagjpkaaDoor.Pr
