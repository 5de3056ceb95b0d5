-- printed by wip/tools/pr.py (the kit's print.py, altered in memory) for this claim. Not trusted: Lean checks it.
import Derived.Test.YtmmakaheagjpkaaDoorPr0
import Derived.Test.YtmmakaheagjpkaaDoorPr1
namespace Go.Proofs.YtmmakaheagjpkaaDoor.Pr
open Go.RowKit Go.Proofs.YtmmakaheagjpkaaDoorW.PrintWords Go.Proofs.YtmmakaheagjpkaaDoorW.PrintLast Go.Proofs.YtmmakaheagjpkaaDoorW.PrintMore
noncomputable section
attribute [local go_sem] max2_int min2_int max_two min_two max_three min_three max_four min_four   -- for this text's walks alone
set_option linter.unusedVariables false
set_option linter.unusedSimpArgs false

/-! ### repertoire_mark: function 30 -/
def repertoire_mark.j0 : Nat → Int → Int → Bool → Option (Bool)
  | 0, _, _, _ => none
  | k + 1, x0, x3, x4 => if x4 = true then (some false) else (if x3 = 803 then (some true) else (if x3 = 807 then (some true) else (if x3 = 808 then (some true) else ((repertoire_from.f x0 768 780).bind fun t112 => (some t112)))))
def repertoire_mark.f (k : Nat) (a0 : Int) : Option (Bool) := if a0 = 773 then (repertoire_mark.j0 k a0 a0 (a0 == 773)) else (repertoire_mark.j0 k a0 a0 (a0 == 777))
theorem repertoire_mark.mono_l : ∀ k, (∀ y0 y1 y2, LeO (repertoire_mark.j0 k y0 y1 y2) (repertoire_mark.j0 (k + 1) y0 y1 y2))
  | 0 => fun _ _ _ r h => by simp [repertoire_mark.j0] at h
  | k + 1 => by
    have ih0 := repertoire_mark.mono_l k
    · intro y0 y1 y2
      unfold repertoire_mark.j0
      repeat' first
      | (with_reducible exact ih0 _ _ _)
      | (with_reducible exact LeO.refl _)
      | (with_reducible exact LeO.none _)
      | (with_reducible refine LeO.ite ?_ ?_)
      | (with_reducible refine LeO.bind ?_ (fun _ => ?_))
      | exact ih0 _ _ _
      | exact LeO.none _
      | refine LeO.ite ?_ ?_
      | refine LeO.bind ?_ (fun _ => ?_)
theorem repertoire_mark.mono : ∀ a0 k, LeO (repertoire_mark.f k a0) (repertoire_mark.f (k + 1) a0) := by
  intro a0 k
  have ih0 := repertoire_mark.mono_l k
  unfold repertoire_mark.f
  repeat' first
      | (with_reducible exact ih0 _ _ _)
      | (with_reducible exact LeO.refl _)
      | (with_reducible exact LeO.none _)
      | (with_reducible refine LeO.ite ?_ ?_)
      | (with_reducible refine LeO.bind ?_ (fun _ => ?_))
      | exact ih0 _ _ _
      | exact LeO.none _
      | refine LeO.ite ?_ ?_
      | refine LeO.bind ?_ (fun _ => ?_)
set_option maxHeartbeats 8000000 in
set_option maxRecDepth 100000 in
theorem repertoire_mark.calls (k : Nat) (a0 : Int) (r : Bool) (w : World) (h : repertoire_mark.f k a0 = some r) :
    Calls Tryd.prog 30 #[.int .i64 a0] w fun e w' => e = .returned (.bool r) ∧ Drawn0 w w' := by
  have H : (if a0 = 773 then (repertoire_mark.j0 k a0 a0 (a0 == 773)) else (repertoire_mark.j0 k a0 a0 (a0 == 777))) = some r := h
  clear h
  have HC2 := Aside0.mk H
  clear H
  go_enter Tryd.func30, Tryd.ntmps30
  go_upto_if 4 with (fail)
  go_cut [4] (fun v4 wc => ∃ (kq : Nat) (x4_1 : Bool), v4 = .bool x4_1 ∧ Aside0 (repertoire_mark.j0 kq a0 a0 x4_1 = some r) ∧ Aside0 (kq ≤ k) ∧ Drawn0 w wc)
  case first =>
    have H := HC2.out
    clear HC2
    by_cases c3 : a0 = 773
    · rw [if_pos c3] at H
      have c3b0 : (a0 == 773) = true := beq_iff_eq.mpr c3
      have c3b1 : (a0 != 773) = false := bne_eq_false_iff_eq.mpr c3
      clear c3
      (first | rw [c3b0] | (simp only [i64_w, i32_w]; rw [c3b0]) | skip)
      have H' := Aside0.mk H
      clear H
      go_wp2
      go_meet
      case rel => exact ⟨_, ((a0 == 773)), (by first | rfl | (simp; done) | (simp [*]; done)), H', ⟨by first | omega | exact Nat.le_refl _⟩, by repeat (first | exact Drawn0.refl _ | apply Drawn0.step)⟩
    · rw [if_neg c3] at H
      have c3b0 : (a0 == 773) = false := beq_eq_false_iff_ne.mpr c3
      have c3b1 : (a0 != 773) = true := bne_iff_ne.mpr c3
      (first | rw [c3b0] | (simp only [i64_w, i32_w]; rw [c3b0]) | skip)
      have H' := Aside0.mk H
      clear H
      go_wp2
      go_meet
      case rel => exact ⟨_, ((a0 == 777)), (by first | rfl | (simp; done) | (simp [*]; done)), H', ⟨by first | omega | exact Nat.le_refl _⟩, by repeat (first | exact Drawn0.refl _ | apply Drawn0.step)⟩
  case rest =>
    clear HC2
    try clear p2
    try clear c3
    try clear c3b0
    try clear c3b1
    obtain ⟨kq, x4_1, rfl, HA, HJ1, ⟨mc1, rfl⟩⟩ := hcut
    cases kq with
    | zero => exact absurd HA.out (by simp [repertoire_mark.j0])
    | succ kj1 =>
      have H := HA.out
      clear HA
      simp only [repertoire_mark.j0] at H
      by_cases c4 : x4_1 = true
      · subst c4
        have H1 : (some false) = some r := by rw [if_pos rfl] at H; exact H
        clear H
        have H := H1
        clear H1
        obtain rfl := Option.some.inj H
        go_wp2
        go_ret
        exact ⟨by first | rfl | (simp; done) | (simp [*]; done), by repeat (first | exact Drawn0.refl _ | apply Drawn0.step)⟩
      · replace c4 := Bool.eq_false_iff.mpr c4
        subst c4
        have H1 : (if a0 = 803 then (some true) else (if a0 = 807 then (some true) else (if a0 = 808 then (some true) else ((repertoire_from.f a0 768 780).bind fun t112 => (some t112))))) = some r := by rw [if_neg (show ¬ (false = true) by decide)] at H; exact H
        clear H
        have H := H1
        clear H1
        by_cases c5 : a0 = 803
        · rw [if_pos c5] at H
          have c5b0 : (a0 == 803) = true := beq_iff_eq.mpr c5
          have c5b1 : (a0 != 803) = false := bne_eq_false_iff_eq.mpr c5
          clear c5
          obtain rfl := Option.some.inj H
          go_wp2
          go_ret
          exact ⟨by first | rfl | (simp; done) | (simp [*]; done), by repeat (first | exact Drawn0.refl _ | apply Drawn0.step)⟩
        · rw [if_neg c5] at H
          have c5b0 : (a0 == 803) = false := beq_eq_false_iff_ne.mpr c5
          have c5b1 : (a0 != 803) = true := bne_iff_ne.mpr c5
          by_cases c6 : a0 = 807
          · rw [if_pos c6] at H
            have c6b0 : (a0 == 807) = true := beq_iff_eq.mpr c6
            have c6b1 : (a0 != 807) = false := bne_eq_false_iff_eq.mpr c6
            clear c6
            obtain rfl := Option.some.inj H
            go_wp2
            go_ret
            exact ⟨by first | rfl | (simp; done) | (simp [*]; done), by repeat (first | exact Drawn0.refl _ | apply Drawn0.step)⟩
          · rw [if_neg c6] at H
            have c6b0 : (a0 == 807) = false := beq_eq_false_iff_ne.mpr c6
            have c6b1 : (a0 != 807) = true := bne_iff_ne.mpr c6
            by_cases c7 : a0 = 808
            · rw [if_pos c7] at H
              have c7b0 : (a0 == 808) = true := beq_iff_eq.mpr c7
              have c7b1 : (a0 != 808) = false := bne_eq_false_iff_eq.mpr c7
              clear c7
              obtain rfl := Option.some.inj H
              go_wp2
              go_ret
              exact ⟨by first | rfl | (simp; done) | (simp [*]; done), by repeat (first | exact Drawn0.refl _ | apply Drawn0.step)⟩
            · rw [if_neg c7] at H
              have c7b0 : (a0 == 808) = false := beq_eq_false_iff_ne.mpr c7
              have c7b1 : (a0 != 808) = true := bne_iff_ne.mpr c7
              replace H := Option.bind_eq_some_iff.mp H
              obtain ⟨t112, A80, H⟩ := H
              replace H : (some t112) = some r := H
              have A8 := Aside0.mk A80
              clear A80
              obtain rfl := Option.some.inj H
              go_wp2_with (first | ((with_reducible refine gate_callee (f := 28) rfl ?_); refine goesL_ (some 12) rfl rfl Tryd.func28 (by kernel_rfl) rfl #[.int .i64 a0, .int .i64 768, .int .i64 780] rfl (by (try simp only [List.map_toArray, List.map_cons, List.map_nil]); first | done | rfl | (simp only [List.length_drop, List.length_take]; rfl)) ?_; (with_reducible refine (repertoire_from.calls a0 768 780 t112 _ A8.out).mono ?_); rintro e w' ⟨rfl, ⟨nd, rfl⟩⟩; refine ⟨_, rfl, ?_⟩))
              go_ret
              exact ⟨by first | rfl | (simp; done) | (simp [*]; done), by repeat (first | exact Drawn0.refl _ | apply Drawn0.step)⟩

end
end Go.Proofs.YtmmakaheagjpkaaDoor.Pr
