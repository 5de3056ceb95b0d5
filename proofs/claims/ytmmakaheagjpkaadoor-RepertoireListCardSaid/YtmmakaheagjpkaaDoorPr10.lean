-- printed by wip/tools/pr.py (the kit's print.py, altered in memory) for this claim. Not trusted: Lean checks it.
import Derived.Test.YtmmakaheagjpkaaDoorPr0
namespace Go.Proofs.YtmmakaheagjpkaaDoor.Pr
open Go.RowKit Go.Proofs.YtmmakaheagjpkaaDoorW.PrintWords Go.Proofs.YtmmakaheagjpkaaDoorW.PrintLast Go.Proofs.YtmmakaheagjpkaaDoorW.PrintMore
noncomputable section
attribute [local go_sem] max2_int min2_int max_two min_two max_three min_three max_four min_four   -- for this text's walks alone
set_option linter.unusedVariables false
set_option linter.unusedSimpArgs false

/-! ### bookplateref04_at: function 34 -/
mutual
def bookplateref04_at.j0 : Nat → ByteArray → Int → Int → Bool → Option (Int × Int)
  | 0, _, _, _, _ => none
  | k + 1, x0, x1, x6, x35 => if x35 = true then (if 0 ≤ (wrap64 (x1 + 1)) then (if (wrap64 (x1 + 1)) < (x0.size : Int) then (some (wrap64 ((wrap64 ((wrap64 (x6 - 192)) * 64)) + (((bt x0 (wrap64 (x1 + 1))) - 128) % 256)), 2)) else (none)) else (none)) else (if x6 ≥ 224 then (if x6 < 240 then (if (wrap64 (x1 + 2)) < (x0.size : Int) then (if 0 ≤ (wrap64 (x1 + 1)) then (if (wrap64 (x1 + 1)) < (x0.size : Int) then (if ((bt x0 (wrap64 (x1 + 1))) / 64) = 2 then (if 0 ≤ (wrap64 (x1 + 2)) then (bookplateref04_at.j1 k x0 x1 x6 (((bt x0 (wrap64 (x1 + 2))) / 64) == 2)) else (none)) else (bookplateref04_at.j1 k x0 x1 x6 false)) else (none)) else (none)) else (bookplateref04_at.j1 k x0 x1 x6 false)) else (bookplateref04_at.j1 k x0 x1 x6 false)) else (bookplateref04_at.j1 k x0 x1 x6 false))
def bookplateref04_at.j1 : Nat → ByteArray → Int → Int → Bool → Option (Int × Int)
  | 0, _, _, _, _ => none
  | k + 1, x0, x1, x6, x74 => if x74 = true then (if 0 ≤ (wrap64 (x1 + 1)) then (if (wrap64 (x1 + 1)) < (x0.size : Int) then (if 0 ≤ (wrap64 (x1 + 2)) then (if (wrap64 (x1 + 2)) < (x0.size : Int) then (if (wrap64 ((wrap64 ((wrap64 ((wrap64 (x6 - 224)) * 4096)) + ((((bt x0 (wrap64 (x1 + 1))) - 128) % 256) * 64))) + (((bt x0 (wrap64 (x1 + 2))) - 128) % 256))) ≥ 2048 then (some (wrap64 ((wrap64 ((wrap64 ((wrap64 (x6 - 224)) * 4096)) + ((((bt x0 (wrap64 (x1 + 1))) - 128) % 256) * 64))) + (((bt x0 (wrap64 (x1 + 2))) - 128) % 256)), 3)) else (some (0, 0))) else (none)) else (none)) else (none)) else (none)) else (some (0, 0))
end
def bookplateref04_at.f (k : Nat) (a0 : ByteArray) (a1 : Int) : Option (Int × Int) := if 0 ≤ a1 then (if a1 < (a0.size : Int) then (if (wrap64 (bt a0 a1)) < 128 then (some (wrap64 (bt a0 a1), 1)) else (if (wrap64 (bt a0 a1)) ≥ 194 then (if (wrap64 (bt a0 a1)) < 224 then (if (wrap64 (a1 + 1)) < (a0.size : Int) then (if 0 ≤ (wrap64 (a1 + 1)) then (bookplateref04_at.j0 k a0 a1 (wrap64 (bt a0 a1)) (((bt a0 (wrap64 (a1 + 1))) / 64) == 2)) else (none)) else (bookplateref04_at.j0 k a0 a1 (wrap64 (bt a0 a1)) false)) else (bookplateref04_at.j0 k a0 a1 (wrap64 (bt a0 a1)) false)) else (bookplateref04_at.j0 k a0 a1 (wrap64 (bt a0 a1)) false))) else (none)) else (none)
theorem bookplateref04_at.mono_l : ∀ k, (∀ y0 y1 y2 y3, LeO (bookplateref04_at.j0 k y0 y1 y2 y3) (bookplateref04_at.j0 (k + 1) y0 y1 y2 y3)) ∧ (∀ y0 y1 y2 y3, LeO (bookplateref04_at.j1 k y0 y1 y2 y3) (bookplateref04_at.j1 (k + 1) y0 y1 y2 y3))
  | 0 => ⟨fun _ _ _ _ r h => by simp [bookplateref04_at.j0] at h, fun _ _ _ _ r h => by simp [bookplateref04_at.j1] at h⟩
  | k + 1 => by
    obtain ⟨ih0, ih1⟩ := bookplateref04_at.mono_l k
    refine ⟨?_, ?_⟩
    · intro y0 y1 y2 y3
      unfold bookplateref04_at.j0
      repeat' first
      | (with_reducible exact ih0 _ _ _ _)
      | (with_reducible exact ih1 _ _ _ _)
      | (with_reducible exact LeO.refl _)
      | (with_reducible exact LeO.none _)
      | (with_reducible refine LeO.ite ?_ ?_)
      | (with_reducible refine LeO.bind ?_ (fun _ => ?_))
      | exact ih0 _ _ _ _
      | exact ih1 _ _ _ _
      | exact LeO.none _
      | refine LeO.ite ?_ ?_
      | refine LeO.bind ?_ (fun _ => ?_)
    · intro y0 y1 y2 y3
      unfold bookplateref04_at.j1
      repeat' first
      | (with_reducible exact ih0 _ _ _ _)
      | (with_reducible exact ih1 _ _ _ _)
      | (with_reducible exact LeO.refl _)
      | (with_reducible exact LeO.none _)
      | (with_reducible refine LeO.ite ?_ ?_)
      | (with_reducible refine LeO.bind ?_ (fun _ => ?_))
      | exact ih0 _ _ _ _
      | exact ih1 _ _ _ _
      | exact LeO.none _
      | refine LeO.ite ?_ ?_
      | refine LeO.bind ?_ (fun _ => ?_)
theorem bookplateref04_at.mono : ∀ a0 a1 k, LeO (bookplateref04_at.f k a0 a1) (bookplateref04_at.f (k + 1) a0 a1) := by
  intro a0 a1 k
  obtain ⟨ih0, ih1⟩ := bookplateref04_at.mono_l k
  unfold bookplateref04_at.f
  repeat' first
      | (with_reducible exact ih0 _ _ _ _)
      | (with_reducible exact ih1 _ _ _ _)
      | (with_reducible exact LeO.refl _)
      | (with_reducible exact LeO.none _)
      | (with_reducible refine LeO.ite ?_ ?_)
      | (with_reducible refine LeO.bind ?_ (fun _ => ?_))
      | exact ih0 _ _ _ _
      | exact ih1 _ _ _ _
      | exact LeO.none _
      | refine LeO.ite ?_ ?_
      | refine LeO.bind ?_ (fun _ => ?_)
set_option maxHeartbeats 8000000 in
set_option maxRecDepth 100000 in
theorem bookplateref04_at.calls (k : Nat) (a0 : ByteArray) (a1 : Int) (r1 : Int) (r2 : Int) (w : World) (h : bookplateref04_at.f k a0 a1 = some (r1, r2)) :
    Calls Tryd.prog 34 #[.string a0, .int .i64 a1] w fun e w' => e = .returned (.tuple #[.int .i64 r1, .int .i64 r2]) ∧ Drawn0 w w' := by
  have H : (if 0 ≤ a1 then (if a1 < (a0.size : Int) then (if (wrap64 (bt a0 a1)) < 128 then (some (wrap64 (bt a0 a1), 1)) else (if (wrap64 (bt a0 a1)) ≥ 194 then (if (wrap64 (bt a0 a1)) < 224 then (if (wrap64 (a1 + 1)) < (a0.size : Int) then (if 0 ≤ (wrap64 (a1 + 1)) then (bookplateref04_at.j0 k a0 a1 (wrap64 (bt a0 a1)) (((bt a0 (wrap64 (a1 + 1))) / 64) == 2)) else (none)) else (bookplateref04_at.j0 k a0 a1 (wrap64 (bt a0 a1)) false)) else (bookplateref04_at.j0 k a0 a1 (wrap64 (bt a0 a1)) false)) else (bookplateref04_at.j0 k a0 a1 (wrap64 (bt a0 a1)) false))) else (none)) else (none)) = some (r1, r2) := h
  clear h
  by_cases c3 : 0 ≤ a1
  · rw [if_pos c3] at H
    have c3b0 : decide (0 ≤ a1) = true := decide_eq_true c3
    clear c3
    by_cases c4 : a1 < (a0.size : Int)
    · rw [if_pos c4] at H
      have c4b0 : decide (a1 < (a0.size : Int)) = true := decide_eq_true c4
      clear c4
      by_cases c6 : (wrap64 (bt a0 a1)) < 128
      · rw [if_pos c6] at H
        have c6b0 : decide ((wrap64 (bt a0 a1)) < 128) = true := decide_eq_true c6
        clear c6
        simp only [Option.some.injEq, Prod.mk.injEq] at H
        obtain ⟨rfl, rfl⟩ := H
        have p5 : 0 ≤ (a1 : Int) := of_decide_eq_true (by first | (with_reducible assumption) | assumption)
        have q5 : a1 < (a0.size : Int) := of_decide_eq_true (by first | (with_reducible assumption) | assumption)
        have hx5 := bt_at a0 a1
        replace p5 := eq_true p5
        replace q5 := eq_true q5
        go_enter Tryd.func34, Tryd.ntmps34
        go_wp2
        repeat (go_quiet (fail); try go_wp2)
        go_ret2
        exact ⟨by first | rfl | (simp; done) | (simp [*]; done), by repeat (first | exact Drawn0.refl _ | apply Drawn0.step)⟩
      · rw [if_neg c6] at H
        have c6b0 : decide ((wrap64 (bt a0 a1)) < 128) = false := decide_eq_false c6
        clear c6
        have HC7 := Aside0.mk H
        clear H
        have p5 : 0 ≤ (a1 : Int) := of_decide_eq_true (by first | (with_reducible assumption) | assumption)
        have q5 : a1 < (a0.size : Int) := of_decide_eq_true (by first | (with_reducible assumption) | assumption)
        have hx5 := bt_at a0 a1
        replace p5 := eq_true p5
        replace q5 := eq_true q5
        go_enter Tryd.func34, Tryd.ntmps34
        go_upto_region 4 with (fail)
        repeat (go_quiet (fail); go_upto_region 4 with (fail))
        go_cut [35] (fun v35 wc => ∃ (kq : Nat) (x35_6 : Bool), v35 = .bool x35_6 ∧ Aside0 (bookplateref04_at.j0 kq a0 a1 (wrap64 (bt a0 a1)) x35_6 = some (r1, r2)) ∧ Aside0 (kq ≤ k) ∧ Drawn0 w wc)
        case first =>
          have H := HC7.out
          clear HC7
          by_cases c8 : (wrap64 (bt a0 a1)) ≥ 194
          · rw [if_pos c8] at H
            have c8b0 : decide (194 ≤ (wrap64 (bt a0 a1))) = true := decide_eq_true c8
            clear c8
            (first | rw [c8b0] | (simp only [i64_w, i32_w]; rw [c8b0]) | skip)
            by_cases c9 : (wrap64 (bt a0 a1)) < 224
            · rw [if_pos c9] at H
              have c9b0 : decide ((wrap64 (bt a0 a1)) < 224) = true := decide_eq_true c9
              clear c9
              by_cases c10 : (wrap64 (a1 + 1)) < (a0.size : Int)
              · rw [if_pos c10] at H
                have c10b0 : decide ((wrap64 (a1 + 1)) < (a0.size : Int)) = true := decide_eq_true c10
                clear c10
                obtain ⟨ji11, hji11⟩ : ∃ j_ : Int, (wrap64 (a1 + 1)) = j_ := ⟨_, rfl⟩
                replace H : (if 0 ≤ (ji11) then (bookplateref04_at.j0 k a0 a1 (wrap64 (bt a0 a1)) (((bt a0 (ji11)) / 64) == 2)) else (none)) = some (r1, r2) := by first | (rw [hji11] at H; exact H) | (simp only [hji11] at H ⊢; exact H)
                (try rw [hji11] at c10b0)
                have hji11w : (IntKind.i64.wrap (a1 + 1)) = ji11 := (i64_w _).trans hji11
                by_cases c12 : 0 ≤ (ji11)
                · rw [if_pos c12] at H
                  have c12b0 : decide (0 ≤ (ji11)) = true := decide_eq_true c12
                  clear c12
                  have H' := Aside0.mk H
                  clear H
                  have p13 : 0 ≤ ((ji11) : Int) := of_decide_eq_true (by first | (with_reducible assumption) | assumption)
                  have q13 : (ji11) < (a0.size : Int) := of_decide_eq_true (by first | (with_reducible assumption) | assumption)
                  have hx13 := bt_at a0 (ji11)
                  replace p13 := eq_true p13
                  replace q13 := eq_true q13
                  go_wp2
                  repeat (go_quiet (fail); try go_wp2)
                  go_meet
                  case rel => exact ⟨_, ((((bt a0 (ji11)) / 64) == 2)), (by first | rfl | (simp; done) | (simp only [← hji11] <;> (first | rfl | simp)) | (simp [*]; done)), H', ⟨by first | omega | exact Nat.le_refl _⟩, by repeat (first | exact Drawn0.refl _ | apply Drawn0.step)⟩
                · rw [if_neg c12] at H
                  exact absurd H (by simp)
              · rw [if_neg c10] at H
                have c10b0 : decide ((wrap64 (a1 + 1)) < (a0.size : Int)) = false := decide_eq_false c10
                clear c10
                have H' := Aside0.mk H
                clear H
                go_wp2
                repeat (go_quiet (fail); try go_wp2)
                go_meet
                case rel => exact ⟨_, (false), (by first | rfl | (simp; done) | (simp [*]; done)), H', ⟨by first | omega | exact Nat.le_refl _⟩, by repeat (first | exact Drawn0.refl _ | apply Drawn0.step)⟩
            · rw [if_neg c9] at H
              have c9b0 : decide ((wrap64 (bt a0 a1)) < 224) = false := decide_eq_false c9
              clear c9
              have H' := Aside0.mk H
              clear H
              go_wp2
              repeat (go_quiet (fail); try go_wp2)
              go_meet
              case rel => exact ⟨_, (false), (by first | rfl | (simp; done) | (simp [*]; done)), H', ⟨by first | omega | exact Nat.le_refl _⟩, by repeat (first | exact Drawn0.refl _ | apply Drawn0.step)⟩
          · rw [if_neg c8] at H
            have c8b0 : decide (194 ≤ (wrap64 (bt a0 a1))) = false := decide_eq_false c8
            clear c8
            (first | rw [c8b0] | (simp only [i64_w, i32_w]; rw [c8b0]) | skip)
            have H' := Aside0.mk H
            clear H
            go_wp2
            repeat (go_quiet (fail); try go_wp2)
            go_meet
            case rel => exact ⟨_, (false), (by first | rfl | (simp; done) | (simp [*]; done)), H', ⟨by first | omega | exact Nat.le_refl _⟩, by repeat (first | exact Drawn0.refl _ | apply Drawn0.step)⟩
        case rest =>
          clear HC7
          try clear c1
          try clear p1
          try clear q1
          try clear hx1
          try clear p2
          try clear c3
          try clear c3b0
          try clear c4
          try clear c4b0
          try clear p5
          try clear q5
          try clear hx5
          try clear c6
          try clear c6b0
          try clear p6
          try clear c8
          try clear c8b0
          try clear c9
          try clear c9b0
          try clear c10
          try clear c10b0
          try clear c12
          try clear c12b0
          try clear p13
          try clear q13
          try clear hx13
          try clear p13
          try clear p5
          try clear q13
          try clear q5
          obtain ⟨kq, x35_6, rfl, HA, HJ6, ⟨mc6, rfl⟩⟩ := hcut
          cases kq with
          | zero => exact absurd HA.out (by simp [bookplateref04_at.j0])
          | succ kj6 =>
            have H := HA.out
            clear HA
            simp only [bookplateref04_at.j0] at H
            by_cases c14 : x35_6 = true
            · subst c14
              have H1 : (if 0 ≤ (wrap64 (a1 + 1)) then (if (wrap64 (a1 + 1)) < (a0.size : Int) then (some (wrap64 ((wrap64 ((wrap64 ((wrap64 (bt a0 a1)) - 192)) * 64)) + (((bt a0 (wrap64 (a1 + 1))) - 128) % 256)), 2)) else (none)) else (none)) = some (r1, r2) := by rw [if_pos rfl] at H; exact H
              clear H
              have H := H1
              clear H1
              obtain ⟨ji15, hji15⟩ : ∃ j_ : Int, (wrap64 (a1 + 1)) = j_ := ⟨_, rfl⟩
              replace H : (if 0 ≤ (ji15) then (if (ji15) < (a0.size : Int) then (some (wrap64 ((wrap64 ((wrap64 ((wrap64 (bt a0 a1)) - 192)) * 64)) + (((bt a0 (ji15)) - 128) % 256)), 2)) else (none)) else (none)) = some (r1, r2) := by first | (rw [hji15] at H; exact H) | (simp only [hji15] at H ⊢; exact H)
              have hji15w : (IntKind.i64.wrap (a1 + 1)) = ji15 := (i64_w _).trans hji15
              by_cases c16 : 0 ≤ (ji15)
              · rw [if_pos c16] at H
                have c16b0 : decide (0 ≤ (ji15)) = true := decide_eq_true c16
                clear c16
                by_cases c17 : (ji15) < (a0.size : Int)
                · rw [if_pos c17] at H
                  have c17b0 : decide ((ji15) < (a0.size : Int)) = true := decide_eq_true c17
                  clear c17
                  simp only [Option.some.injEq, Prod.mk.injEq] at H
                  obtain ⟨rfl, rfl⟩ := H
                  have p18 : 0 ≤ ((ji15) : Int) := of_decide_eq_true (by first | (with_reducible assumption) | assumption)
                  have q18 : (ji15) < (a0.size : Int) := of_decide_eq_true (by first | (with_reducible assumption) | assumption)
                  have hx18 := bt_at a0 (ji15)
                  replace p18 := eq_true p18
                  replace q18 := eq_true q18
                  go_wp2
                  repeat (go_quiet (fail); try go_wp2)
                  go_ret2
                  exact ⟨by first | rfl | (simp; done) | (simp only [← hji15] <;> (first | rfl | simp)) | (simp [*]; done), by repeat (first | exact Drawn0.refl _ | apply Drawn0.step)⟩
                · rw [if_neg c17] at H
                  exact absurd H (by simp)
              · rw [if_neg c16] at H
                exact absurd H (by simp)
            · replace c14 := Bool.eq_false_iff.mpr c14
              subst c14
              have H1 : (if (wrap64 (bt a0 a1)) ≥ 224 then (if (wrap64 (bt a0 a1)) < 240 then (if (wrap64 (a1 + 2)) < (a0.size : Int) then (if 0 ≤ (wrap64 (a1 + 1)) then (if (wrap64 (a1 + 1)) < (a0.size : Int) then (if ((bt a0 (wrap64 (a1 + 1))) / 64) = 2 then (if 0 ≤ (wrap64 (a1 + 2)) then (bookplateref04_at.j1 kj6 a0 a1 (wrap64 (bt a0 a1)) (((bt a0 (wrap64 (a1 + 2))) / 64) == 2)) else (none)) else (bookplateref04_at.j1 kj6 a0 a1 (wrap64 (bt a0 a1)) false)) else (none)) else (none)) else (bookplateref04_at.j1 kj6 a0 a1 (wrap64 (bt a0 a1)) false)) else (bookplateref04_at.j1 kj6 a0 a1 (wrap64 (bt a0 a1)) false)) else (bookplateref04_at.j1 kj6 a0 a1 (wrap64 (bt a0 a1)) false)) = some (r1, r2) := by rw [if_neg (show ¬ (false = true) by decide)] at H; exact H
              clear H
              have H := H1
              clear H1
              have HC19 := Aside0.mk H
              clear H
              go_upto_region 6 with (fail)
              repeat (go_quiet (fail); go_upto_region 6 with (fail))
              go_cut [74] (fun v74 wc => ∃ (kq : Nat) (x74_18 : Bool), v74 = .bool x74_18 ∧ Aside0 (bookplateref04_at.j1 kq a0 a1 (wrap64 (bt a0 a1)) x74_18 = some (r1, r2)) ∧ Aside0 (kq ≤ kj6) ∧ Drawn0 w wc)
              case first =>
                have H := HC19.out
                clear HC19
                by_cases c20 : (wrap64 (bt a0 a1)) ≥ 224
                · rw [if_pos c20] at H
                  have c20b0 : decide (224 ≤ (wrap64 (bt a0 a1))) = true := decide_eq_true c20
                  clear c20
                  (first | rw [c20b0] | (simp only [i64_w, i32_w]; rw [c20b0]) | skip)
                  by_cases c21 : (wrap64 (bt a0 a1)) < 240
                  · rw [if_pos c21] at H
                    have c21b0 : decide ((wrap64 (bt a0 a1)) < 240) = true := decide_eq_true c21
                    clear c21
                    by_cases c22 : (wrap64 (a1 + 2)) < (a0.size : Int)
                    · rw [if_pos c22] at H
                      have c22b0 : decide ((wrap64 (a1 + 2)) < (a0.size : Int)) = true := decide_eq_true c22
                      clear c22
                      obtain ⟨ji23, hji23⟩ : ∃ j_ : Int, (wrap64 (a1 + 1)) = j_ := ⟨_, rfl⟩
                      replace H : (if 0 ≤ (ji23) then (if (ji23) < (a0.size : Int) then (if ((bt a0 (ji23)) / 64) = 2 then (if 0 ≤ (wrap64 (a1 + 2)) then (bookplateref04_at.j1 kj6 a0 a1 (wrap64 (bt a0 a1)) (((bt a0 (wrap64 (a1 + 2))) / 64) == 2)) else (none)) else (bookplateref04_at.j1 kj6 a0 a1 (wrap64 (bt a0 a1)) false)) else (none)) else (none)) = some (r1, r2) := by first | (rw [hji23] at H; exact H) | (simp only [hji23] at H ⊢; exact H)
                      have hji23w : (IntKind.i64.wrap (a1 + 1)) = ji23 := (i64_w _).trans hji23
                      by_cases c24 : 0 ≤ (ji23)
                      · rw [if_pos c24] at H
                        have c24b0 : decide (0 ≤ (ji23)) = true := decide_eq_true c24
                        clear c24
                        by_cases c25 : (ji23) < (a0.size : Int)
                        · rw [if_pos c25] at H
                          have c25b0 : decide ((ji23) < (a0.size : Int)) = true := decide_eq_true c25
                          clear c25
                          by_cases c27 : ((bt a0 (ji23)) / 64) = 2
                          · rw [if_pos c27] at H
                            have c27b0 : (((bt a0 (ji23)) / 64) == 2) = true := beq_iff_eq.mpr c27
                            have c27b1 : (((bt a0 (ji23)) / 64) != 2) = false := bne_eq_false_iff_eq.mpr c27
                            clear c27
                            obtain ⟨ji28, hji28⟩ : ∃ j_ : Int, (wrap64 (a1 + 2)) = j_ := ⟨_, rfl⟩
                            replace H : (if 0 ≤ (ji28) then (bookplateref04_at.j1 kj6 a0 a1 (wrap64 (bt a0 a1)) (((bt a0 (ji28)) / 64) == 2)) else (none)) = some (r1, r2) := by first | (rw [hji28] at H; exact H) | (simp only [hji28] at H ⊢; exact H)
                            (try rw [hji28] at c22b0)
                            have hji28w : (IntKind.i64.wrap (a1 + 2)) = ji28 := (i64_w _).trans hji28
                            by_cases c29 : 0 ≤ (ji28)
                            · rw [if_pos c29] at H
                              have c29b0 : decide (0 ≤ (ji28)) = true := decide_eq_true c29
                              clear c29
                              have H' := Aside0.mk H
                              clear H
                              have p26 : 0 ≤ ((ji23) : Int) := of_decide_eq_true (by first | (with_reducible assumption) | assumption)
                              have q26 : (ji23) < (a0.size : Int) := of_decide_eq_true (by first | (with_reducible assumption) | assumption)
                              have hx26 := bt_at a0 (ji23)
                              replace p26 := eq_true p26
                              replace q26 := eq_true q26
                              have p30 : 0 ≤ ((ji28) : Int) := of_decide_eq_true (by first | (with_reducible assumption) | assumption)
                              have q30 : (ji28) < (a0.size : Int) := of_decide_eq_true (by first | (with_reducible assumption) | assumption)
                              have hx30 := bt_at a0 (ji28)
                              replace p30 := eq_true p30
                              replace q30 := eq_true q30
                              go_wp2
                              repeat (go_quiet (fail); try go_wp2)
                              go_meet
                              case rel => exact ⟨_, ((((bt a0 (ji28)) / 64) == 2)), (by first | rfl | (simp; done) | (simp only [← hji28] <;> (first | rfl | simp)) | (simp [*]; done)), H', ⟨by have := HJ6.out; first | omega | exact Nat.le_refl _⟩, by repeat (first | exact Drawn0.refl _ | apply Drawn0.step)⟩
                            · rw [if_neg c29] at H
                              exact absurd H (by simp)
                          · rw [if_neg c27] at H
                            have c27b0 : (((bt a0 (ji23)) / 64) == 2) = false := beq_eq_false_iff_ne.mpr c27
                            have c27b1 : (((bt a0 (ji23)) / 64) != 2) = true := bne_iff_ne.mpr c27
                            have H' := Aside0.mk H
                            clear H
                            have p26 : 0 ≤ ((ji23) : Int) := of_decide_eq_true (by first | (with_reducible assumption) | assumption)
                            have q26 : (ji23) < (a0.size : Int) := of_decide_eq_true (by first | (with_reducible assumption) | assumption)
                            have hx26 := bt_at a0 (ji23)
                            replace p26 := eq_true p26
                            replace q26 := eq_true q26
                            go_wp2
                            repeat (go_quiet (fail); try go_wp2)
                            go_meet
                            case rel => exact ⟨_, (false), (by first | rfl | (simp; done) | (simp [*]; done)), H', ⟨by have := HJ6.out; first | omega | exact Nat.le_refl _⟩, by repeat (first | exact Drawn0.refl _ | apply Drawn0.step)⟩
                        · rw [if_neg c25] at H
                          exact absurd H (by simp)
                      · rw [if_neg c24] at H
                        exact absurd H (by simp)
                    · rw [if_neg c22] at H
                      have c22b0 : decide ((wrap64 (a1 + 2)) < (a0.size : Int)) = false := decide_eq_false c22
                      clear c22
                      have H' := Aside0.mk H
                      clear H
                      go_wp2
                      repeat (go_quiet (fail); try go_wp2)
                      go_meet
                      case rel => exact ⟨_, (false), (by first | rfl | (simp; done) | (simp [*]; done)), H', ⟨by have := HJ6.out; first | omega | exact Nat.le_refl _⟩, by repeat (first | exact Drawn0.refl _ | apply Drawn0.step)⟩
                  · rw [if_neg c21] at H
                    have c21b0 : decide ((wrap64 (bt a0 a1)) < 240) = false := decide_eq_false c21
                    clear c21
                    have H' := Aside0.mk H
                    clear H
                    go_wp2
                    repeat (go_quiet (fail); try go_wp2)
                    go_meet
                    case rel => exact ⟨_, (false), (by first | rfl | (simp; done) | (simp [*]; done)), H', ⟨by have := HJ6.out; first | omega | exact Nat.le_refl _⟩, by repeat (first | exact Drawn0.refl _ | apply Drawn0.step)⟩
                · rw [if_neg c20] at H
                  have c20b0 : decide (224 ≤ (wrap64 (bt a0 a1))) = false := decide_eq_false c20
                  clear c20
                  (first | rw [c20b0] | (simp only [i64_w, i32_w]; rw [c20b0]) | skip)
                  have H' := Aside0.mk H
                  clear H
                  go_wp2
                  repeat (go_quiet (fail); try go_wp2)
                  go_meet
                  case rel => exact ⟨_, (false), (by first | rfl | (simp; done) | (simp [*]; done)), H', ⟨by have := HJ6.out; first | omega | exact Nat.le_refl _⟩, by repeat (first | exact Drawn0.refl _ | apply Drawn0.step)⟩
              case rest =>
                clear HC19
                try clear c1
                try clear p1
                try clear q1
                try clear hx1
                try clear c2
                try clear p2
                try clear q2
                try clear hx2
                try clear c3
                try clear c3b0
                try clear p3
                try clear q3
                try clear hx3
                try clear c4
                try clear c4b0
                try clear p5
                try clear q5
                try clear hx5
                try clear c6
                try clear c6b0
                try clear p6
                try clear c8
                try clear c8b0
                try clear c9
                try clear c9b0
                try clear c10
                try clear c10b0
                try clear c12
                try clear c12b0
                try clear p13
                try clear q13
                try clear hx13
                try clear c14
                try clear c16
                try clear c16b0
                try clear c17
                try clear c17b0
                try clear p18
                try clear q18
                try clear hx18
                try clear c20
                try clear c20b0
                try clear c21
                try clear c21b0
                try clear c22
                try clear c22b0
                try clear c24
                try clear c24b0
                try clear c25
                try clear c25b0
                try clear p26
                try clear q26
                try clear hx26
                try clear c27
                try clear c27b0
                try clear c27b1
                try clear c29
                try clear c29b0
                try clear p30
                try clear q30
                try clear hx30
                try clear p1
                try clear p13
                try clear p18
                try clear p2
                try clear p26
                try clear p30
                try clear p5
                try clear p6
                try clear q1
                try clear q13
                try clear q18
                try clear q26
                try clear q30
                try clear q5
                obtain ⟨kq, x74_18, rfl, HA, HJ18, ⟨mc18, rfl⟩⟩ := hcut
                cases kq with
                | zero => exact absurd HA.out (by simp [bookplateref04_at.j1])
                | succ kj18 =>
                  have H := HA.out
                  clear HA
                  simp only [bookplateref04_at.j1] at H
                  by_cases c31 : x74_18 = true
                  · subst c31
                    have H1 : (if 0 ≤ (wrap64 (a1 + 1)) then (if (wrap64 (a1 + 1)) < (a0.size : Int) then (if 0 ≤ (wrap64 (a1 + 2)) then (if (wrap64 (a1 + 2)) < (a0.size : Int) then (if (wrap64 ((wrap64 ((wrap64 ((wrap64 ((wrap64 (bt a0 a1)) - 224)) * 4096)) + ((((bt a0 (wrap64 (a1 + 1))) - 128) % 256) * 64))) + (((bt a0 (wrap64 (a1 + 2))) - 128) % 256))) ≥ 2048 then (some (wrap64 ((wrap64 ((wrap64 ((wrap64 ((wrap64 (bt a0 a1)) - 224)) * 4096)) + ((((bt a0 (wrap64 (a1 + 1))) - 128) % 256) * 64))) + (((bt a0 (wrap64 (a1 + 2))) - 128) % 256)), 3)) else (some (0, 0))) else (none)) else (none)) else (none)) else (none)) = some (r1, r2) := by rw [if_pos rfl] at H; exact H
                    clear H
                    have H := H1
                    clear H1
                    obtain ⟨ji32, hji32⟩ : ∃ j_ : Int, (wrap64 (a1 + 1)) = j_ := ⟨_, rfl⟩
                    replace H : (if 0 ≤ (ji32) then (if (ji32) < (a0.size : Int) then (if 0 ≤ (wrap64 (a1 + 2)) then (if (wrap64 (a1 + 2)) < (a0.size : Int) then (if (wrap64 ((wrap64 ((wrap64 ((wrap64 ((wrap64 (bt a0 a1)) - 224)) * 4096)) + ((((bt a0 (ji32)) - 128) % 256) * 64))) + (((bt a0 (wrap64 (a1 + 2))) - 128) % 256))) ≥ 2048 then (some (wrap64 ((wrap64 ((wrap64 ((wrap64 ((wrap64 (bt a0 a1)) - 224)) * 4096)) + ((((bt a0 (ji32)) - 128) % 256) * 64))) + (((bt a0 (wrap64 (a1 + 2))) - 128) % 256)), 3)) else (some (0, 0))) else (none)) else (none)) else (none)) else (none)) = some (r1, r2) := by first | (rw [hji32] at H; exact H) | (simp only [hji32] at H ⊢; exact H)
                    have hji32w : (IntKind.i64.wrap (a1 + 1)) = ji32 := (i64_w _).trans hji32
                    by_cases c33 : 0 ≤ (ji32)
                    · rw [if_pos c33] at H
                      have c33b0 : decide (0 ≤ (ji32)) = true := decide_eq_true c33
                      clear c33
                      by_cases c34 : (ji32) < (a0.size : Int)
                      · rw [if_pos c34] at H
                        have c34b0 : decide ((ji32) < (a0.size : Int)) = true := decide_eq_true c34
                        clear c34
                        obtain ⟨ji36, hji36⟩ : ∃ j_ : Int, (wrap64 (a1 + 2)) = j_ := ⟨_, rfl⟩
                        replace H : (if 0 ≤ (ji36) then (if (ji36) < (a0.size : Int) then (if (wrap64 ((wrap64 ((wrap64 ((wrap64 ((wrap64 (bt a0 a1)) - 224)) * 4096)) + ((((bt a0 (ji32)) - 128) % 256) * 64))) + (((bt a0 (ji36)) - 128) % 256))) ≥ 2048 then (some (wrap64 ((wrap64 ((wrap64 ((wrap64 ((wrap64 (bt a0 a1)) - 224)) * 4096)) + ((((bt a0 (ji32)) - 128) % 256) * 64))) + (((bt a0 (ji36)) - 128) % 256)), 3)) else (some (0, 0))) else (none)) else (none)) = some (r1, r2) := by first | (rw [hji36] at H; exact H) | (simp only [hji36] at H ⊢; exact H)
                        have hji36w : (IntKind.i64.wrap (a1 + 2)) = ji36 := (i64_w _).trans hji36
                        by_cases c37 : 0 ≤ (ji36)
                        · rw [if_pos c37] at H
                          have c37b0 : decide (0 ≤ (ji36)) = true := decide_eq_true c37
                          clear c37
                          by_cases c38 : (ji36) < (a0.size : Int)
                          · rw [if_pos c38] at H
                            have c38b0 : decide ((ji36) < (a0.size : Int)) = true := decide_eq_true c38
                            clear c38
                            by_cases c40 : (wrap64 ((wrap64 ((wrap64 ((wrap64 ((wrap64 (bt a0 a1)) - 224)) * 4096)) + ((((bt a0 (ji32)) - 128) % 256) * 64))) + (((bt a0 (ji36)) - 128) % 256))) ≥ 2048
                            · rw [if_pos c40] at H
                              have c40b0 : decide (2048 ≤ (wrap64 ((wrap64 ((wrap64 ((wrap64 ((wrap64 (bt a0 a1)) - 224)) * 4096)) + ((((bt a0 (ji32)) - 128) % 256) * 64))) + (((bt a0 (ji36)) - 128) % 256)))) = true := decide_eq_true c40
                              clear c40
                              simp only [Option.some.injEq, Prod.mk.injEq] at H
                              obtain ⟨rfl, rfl⟩ := H
                              have p35 : 0 ≤ ((ji32) : Int) := of_decide_eq_true (by first | (with_reducible assumption) | assumption)
                              have q35 : (ji32) < (a0.size : Int) := of_decide_eq_true (by first | (with_reducible assumption) | assumption)
                              have hx35 := bt_at a0 (ji32)
                              replace p35 := eq_true p35
                              replace q35 := eq_true q35
                              have p39 : 0 ≤ ((ji36) : Int) := of_decide_eq_true (by first | (with_reducible assumption) | assumption)
                              have q39 : (ji36) < (a0.size : Int) := of_decide_eq_true (by first | (with_reducible assumption) | assumption)
                              have hx39 := bt_at a0 (ji36)
                              replace p39 := eq_true p39
                              replace q39 := eq_true q39
                              go_wp2
                              repeat (go_quiet (fail); try go_wp2)
                              go_ret2
                              exact ⟨by first | rfl | (simp; done) | (simp only [← hji32, ← hji36] <;> (first | rfl | simp)) | (simp [*]; done), by repeat (first | exact Drawn0.refl _ | apply Drawn0.step)⟩
                            · rw [if_neg c40] at H
                              have c40b0 : decide (2048 ≤ (wrap64 ((wrap64 ((wrap64 ((wrap64 ((wrap64 (bt a0 a1)) - 224)) * 4096)) + ((((bt a0 (ji32)) - 128) % 256) * 64))) + (((bt a0 (ji36)) - 128) % 256)))) = false := decide_eq_false c40
                              clear c40
                              simp only [Option.some.injEq, Prod.mk.injEq] at H
                              obtain ⟨rfl, rfl⟩ := H
                              have p35 : 0 ≤ ((ji32) : Int) := of_decide_eq_true (by first | (with_reducible assumption) | assumption)
                              have q35 : (ji32) < (a0.size : Int) := of_decide_eq_true (by first | (with_reducible assumption) | assumption)
                              have hx35 := bt_at a0 (ji32)
                              replace p35 := eq_true p35
                              replace q35 := eq_true q35
                              have p39 : 0 ≤ ((ji36) : Int) := of_decide_eq_true (by first | (with_reducible assumption) | assumption)
                              have q39 : (ji36) < (a0.size : Int) := of_decide_eq_true (by first | (with_reducible assumption) | assumption)
                              have hx39 := bt_at a0 (ji36)
                              replace p39 := eq_true p39
                              replace q39 := eq_true q39
                              go_wp2
                              repeat (go_quiet (fail); try go_wp2)
                              go_ret2
                              exact ⟨by first | rfl | (simp; done) | (simp only [← hji32, ← hji36] <;> (first | rfl | simp)) | (simp [*]; done), by repeat (first | exact Drawn0.refl _ | apply Drawn0.step)⟩
                          · rw [if_neg c38] at H
                            exact absurd H (by simp)
                        · rw [if_neg c37] at H
                          exact absurd H (by simp)
                      · rw [if_neg c34] at H
                        exact absurd H (by simp)
                    · rw [if_neg c33] at H
                      exact absurd H (by simp)
                  · replace c31 := Bool.eq_false_iff.mpr c31
                    subst c31
                    have H1 : (some (0, 0)) = some (r1, r2) := by rw [if_neg (show ¬ (false = true) by decide)] at H; exact H
                    clear H
                    have H := H1
                    clear H1
                    simp only [Option.some.injEq, Prod.mk.injEq] at H
                    obtain ⟨rfl, rfl⟩ := H
                    go_wp2
                    repeat (go_quiet (fail); try go_wp2)
                    go_ret2
                    exact ⟨by first | rfl | (simp; done) | (simp [*]; done), by repeat (first | exact Drawn0.refl _ | apply Drawn0.step)⟩
    · rw [if_neg c4] at H
      exact absurd H (by simp)
  · rw [if_neg c3] at H
    exact absurd H (by simp)

end
end Go.Proofs.YtmmakaheagjpkaaDoor.Pr
