-- printed by wip/tools/pr.py (the kit's print.py, altered in memory) for this claim. Not trusted: Lean checks it.
import Derived.Test.YtmmakaheagjpkaaDoorPr0
import Derived.Test.YtmmakaheagjpkaaDoorPr4
import Derived.Test.YtmmakaheagjpkaaDoorPr7
import Derived.Test.YtmmakaheagjpkaaDoorPr8
namespace Go.Proofs.YtmmakaheagjpkaaDoor.Pr
open Go.RowKit Go.Proofs.YtmmakaheagjpkaaDoorW.PrintWords Go.Proofs.YtmmakaheagjpkaaDoorW.PrintLast Go.Proofs.YtmmakaheagjpkaaDoorW.PrintMore
noncomputable section
attribute [local go_sem] max2_int min2_int max_two min_two max_three min_three max_four min_four   -- for this text's walks alone
set_option linter.unusedVariables false
set_option linter.unusedSimpArgs false

/-! ### bookplatelaw04_awake: function 10 -/
def bookplatelaw04_awake.f (k : Nat)  : Option (Bool) := (repertoire_Class.f k 233).bind fun bt144 => ((repertoire_Class.f k 65296).bind fun bt146 => (if bt144.1 = 1 then (if bt144.2 = 1 then (if bt146.1 = 0 then (if bt146.2 = 3 then ((repertoire_Count.f k (⟨#[195, 169]⟩ : ByteArray)).bind fun t148 => (if t148 = 1 then ((repertoire_Script.f k (⟨#[65, 208, 182]⟩ : ByteArray)).bind fun t149 => (if t149 = 4 then ((repertoire_Valid.f k (⟨#[195, 169]⟩ : ByteArray)).bind fun t150 => (some t150)) else (some false))) else (some false))) else (some false)) else (some false)) else (some false)) else (some false)))
theorem bookplatelaw04_awake.mono : ∀ k, LeO (bookplatelaw04_awake.f k ) (bookplatelaw04_awake.f (k + 1) ) := by
  intro  k
  unfold bookplatelaw04_awake.f
  repeat' first
      | (with_reducible exact repertoire_Class.mono _ _)
      | (with_reducible exact repertoire_Count.mono _ _)
      | (with_reducible exact repertoire_Script.mono _ _)
      | (with_reducible exact repertoire_Valid.mono _ _)
      | (with_reducible exact LeO.refl _)
      | (with_reducible exact LeO.none _)
      | (with_reducible refine LeO.ite ?_ ?_)
      | (with_reducible refine LeO.bind ?_ (fun _ => ?_))
      | exact repertoire_Class.mono _ _
      | exact repertoire_Count.mono _ _
      | exact repertoire_Script.mono _ _
      | exact repertoire_Valid.mono _ _
      | exact LeO.none _
      | refine LeO.ite ?_ ?_
      | refine LeO.bind ?_ (fun _ => ?_)
set_option maxHeartbeats 8000000 in
set_option maxRecDepth 100000 in
theorem bookplatelaw04_awake.calls (k : Nat)  (r : Bool) (w : World) (hT : PTabs w) (h : bookplatelaw04_awake.f k  = some r) :
    Calls Tryd.prog 10 #[] w fun e w' => e = .returned (.bool r) ∧ Below w.heap.size w w' := by
  have HB := Aside0.mk (Below.refl w.heap.size w)
  have HT := Aside0.mk hT
  clear hT
  have H : ((repertoire_Class.f k 233).bind fun bt144 => ((repertoire_Class.f k 65296).bind fun bt146 => (if bt144.1 = 1 then (if bt144.2 = 1 then (if bt146.1 = 0 then (if bt146.2 = 3 then ((repertoire_Count.f k (⟨#[195, 169]⟩ : ByteArray)).bind fun t148 => (if t148 = 1 then ((repertoire_Script.f k (⟨#[65, 208, 182]⟩ : ByteArray)).bind fun t149 => (if t149 = 4 then ((repertoire_Valid.f k (⟨#[195, 169]⟩ : ByteArray)).bind fun t150 => (some t150)) else (some false))) else (some false))) else (some false)) else (some false)) else (some false)) else (some false)))) = some r := h
  clear h
  replace H := Option.bind_eq_some_iff.mp H
  obtain ⟨⟨t144, t145⟩, A10, H⟩ := H
  replace H : ((repertoire_Class.f k 65296).bind fun bt146 => (if t144 = 1 then (if t145 = 1 then (if bt146.1 = 0 then (if bt146.2 = 3 then ((repertoire_Count.f k (⟨#[195, 169]⟩ : ByteArray)).bind fun t148 => (if t148 = 1 then ((repertoire_Script.f k (⟨#[65, 208, 182]⟩ : ByteArray)).bind fun t149 => (if t149 = 4 then ((repertoire_Valid.f k (⟨#[195, 169]⟩ : ByteArray)).bind fun t150 => (some t150)) else (some false))) else (some false))) else (some false)) else (some false)) else (some false)) else (some false))) = some r := H
  have A1 := Aside0.mk A10
  clear A10
  replace H := Option.bind_eq_some_iff.mp H
  obtain ⟨⟨t146, t147⟩, A20, H⟩ := H
  replace H : (if t144 = 1 then (if t145 = 1 then (if t146 = 0 then (if t147 = 3 then ((repertoire_Count.f k (⟨#[195, 169]⟩ : ByteArray)).bind fun t148 => (if t148 = 1 then ((repertoire_Script.f k (⟨#[65, 208, 182]⟩ : ByteArray)).bind fun t149 => (if t149 = 4 then ((repertoire_Valid.f k (⟨#[195, 169]⟩ : ByteArray)).bind fun t150 => (some t150)) else (some false))) else (some false))) else (some false)) else (some false)) else (some false)) else (some false)) = some r := H
  have A2 := Aside0.mk A20
  clear A20
  by_cases c3 : t144 = 1
  · rw [if_pos c3] at H
    have c3b0 : (t144 == 1) = true := beq_iff_eq.mpr c3
    have c3b1 : (t144 != 1) = false := bne_eq_false_iff_eq.mpr c3
    clear c3
    by_cases c4 : t145 = 1
    · rw [if_pos c4] at H
      have c4b0 : (t145 == 1) = true := beq_iff_eq.mpr c4
      have c4b1 : (t145 != 1) = false := bne_eq_false_iff_eq.mpr c4
      clear c4
      by_cases c5 : t146 = 0
      · rw [if_pos c5] at H
        have c5b0 : (t146 == 0) = true := beq_iff_eq.mpr c5
        have c5b1 : (t146 != 0) = false := bne_eq_false_iff_eq.mpr c5
        clear c5
        by_cases c6 : t147 = 3
        · rw [if_pos c6] at H
          have c6b0 : (t147 == 3) = true := beq_iff_eq.mpr c6
          have c6b1 : (t147 != 3) = false := bne_eq_false_iff_eq.mpr c6
          clear c6
          replace H := Option.bind_eq_some_iff.mp H
          obtain ⟨t148, A70, H⟩ := H
          replace H : (if t148 = 1 then ((repertoire_Script.f k (⟨#[65, 208, 182]⟩ : ByteArray)).bind fun t149 => (if t149 = 4 then ((repertoire_Valid.f k (⟨#[195, 169]⟩ : ByteArray)).bind fun t150 => (some t150)) else (some false))) else (some false)) = some r := H
          have A7 := Aside0.mk A70
          clear A70
          by_cases c8 : t148 = 1
          · rw [if_pos c8] at H
            have c8b0 : (t148 == 1) = true := beq_iff_eq.mpr c8
            have c8b1 : (t148 != 1) = false := bne_eq_false_iff_eq.mpr c8
            clear c8
            replace H := Option.bind_eq_some_iff.mp H
            obtain ⟨t149, A90, H⟩ := H
            replace H : (if t149 = 4 then ((repertoire_Valid.f k (⟨#[195, 169]⟩ : ByteArray)).bind fun t150 => (some t150)) else (some false)) = some r := H
            have A9 := Aside0.mk A90
            clear A90
            by_cases c10 : t149 = 4
            · rw [if_pos c10] at H
              have c10b0 : (t149 == 4) = true := beq_iff_eq.mpr c10
              have c10b1 : (t149 != 4) = false := bne_eq_false_iff_eq.mpr c10
              clear c10
              replace H := Option.bind_eq_some_iff.mp H
              obtain ⟨t150, A110, H⟩ := H
              replace H : (some t150) = some r := H
              have A11 := Aside0.mk A110
              clear A110
              obtain rfl := Option.some.inj H
              go_enter Tryd.func10, Tryd.ntmps10
              go_wp2_with (first | ((with_reducible refine gate_callee (f := 11) rfl ?_); refine goesL_ (some 6) rfl rfl Tryd.func11 (by kernel_rfl) rfl #[.int .i64 233] rfl (by (try simp only [List.map_toArray, List.map_cons, List.map_nil]); first | done | rfl | (simp only [List.length_drop, List.length_take]; rfl)) ?_; (with_reducible refine (repertoire_Class.calls k 233 t144 t145 _ A1.out).mono ?_); rintro e w12 ⟨rfl, hb⟩; refine ⟨_, rfl, ?_⟩; have n0_ := Aside0.mk (below_step (by repeat (first | (with_reducible first | exact HB.out | apply below_alloc | apply pw_below_drewN | apply below_drew1) | exact HB.out)) hb); clear HB; have HB := n0_; clear n0_; (try clear hb); (try clear hb2); (try clear hk); (try clear hi)) | ((with_reducible refine gate_callee (f := 11) rfl ?_); refine goesL_ (some 10) rfl rfl Tryd.func11 (by kernel_rfl) rfl #[.int .i64 65296] rfl (by (try simp only [List.map_toArray, List.map_cons, List.map_nil]); first | done | rfl | (simp only [List.length_drop, List.length_take]; rfl)) ?_; (with_reducible refine (repertoire_Class.calls k 65296 t146 t147 _ A2.out).mono ?_); rintro e w13 ⟨rfl, hb⟩; refine ⟨_, rfl, ?_⟩; have n0_ := Aside0.mk (below_step (by repeat (first | (with_reducible first | exact HB.out | apply below_alloc | apply pw_below_drewN | apply below_drew1) | exact HB.out)) hb); clear HB; have HB := n0_; clear n0_; (try clear hb); (try clear hb2); (try clear hk); (try clear hi)) | (go_at_call 17; (with_reducible refine (repertoire_Count.calls k (⟨#[195, 169]⟩ : ByteArray) t148 _ ?side1 A7.out).mono ?_); (case side1 => exact PTabs.step HT.out (by repeat (first | (with_reducible first | exact HB.out | apply below_alloc | apply pw_below_drewN | apply below_drew1) | exact HB.out))); rintro e w14 ⟨rfl, hb⟩; have n0_ := Aside0.mk (below_step (by repeat (first | (with_reducible first | exact HB.out | apply below_alloc | apply pw_below_drewN | apply below_drew1) | exact HB.out)) hb); clear HB; have HB := n0_; clear n0_; (try clear hb); (try clear hb2); (try clear hk); (try clear hi)) | (go_at_call 20; (with_reducible refine (repertoire_Script.calls k (⟨#[65, 208, 182]⟩ : ByteArray) t149 _ ?side1 A9.out).mono ?_); (case side1 => exact PTabs.step HT.out (by repeat (first | (with_reducible first | exact HB.out | apply below_alloc | apply pw_below_drewN | apply below_drew1) | exact HB.out))); rintro e w15 ⟨rfl, hb⟩; have n0_ := Aside0.mk (below_step (by repeat (first | (with_reducible first | exact HB.out | apply below_alloc | apply pw_below_drewN | apply below_drew1) | exact HB.out)) hb); clear HB; have HB := n0_; clear n0_; (try clear hb); (try clear hb2); (try clear hk); (try clear hi)) | (go_at_call 18; (with_reducible refine (repertoire_Valid.calls k (⟨#[195, 169]⟩ : ByteArray) t150 _ ?side1 A11.out).mono ?_); (case side1 => exact PTabs.step HT.out (by repeat (first | (with_reducible first | exact HB.out | apply below_alloc | apply pw_below_drewN | apply below_drew1) | exact HB.out))); rintro e w16 ⟨rfl, hb⟩; have n0_ := Aside0.mk (below_step (by repeat (first | (with_reducible first | exact HB.out | apply below_alloc | apply pw_below_drewN | apply below_drew1) | exact HB.out)) hb); clear HB; have HB := n0_; clear n0_; (try clear hb); (try clear hb2); (try clear hk); (try clear hi)))
              go_ret
              exact ⟨by first | rfl | (simp [errW_none, errW_some] <;> rfl) | (simp [*, errW_none, errW_some] <;> rfl), by repeat (first | (with_reducible first | exact HB.out | apply below_alloc | apply pw_below_drewN | apply below_drew1) | exact HB.out)⟩
            · rw [if_neg c10] at H
              have c10b0 : (t149 == 4) = false := beq_eq_false_iff_ne.mpr c10
              have c10b1 : (t149 != 4) = true := bne_iff_ne.mpr c10
              obtain rfl := Option.some.inj H
              go_enter Tryd.func10, Tryd.ntmps10
              go_wp2_with (first | ((with_reducible refine gate_callee (f := 11) rfl ?_); refine goesL_ (some 6) rfl rfl Tryd.func11 (by kernel_rfl) rfl #[.int .i64 233] rfl (by (try simp only [List.map_toArray, List.map_cons, List.map_nil]); first | done | rfl | (simp only [List.length_drop, List.length_take]; rfl)) ?_; (with_reducible refine (repertoire_Class.calls k 233 t144 t145 _ A1.out).mono ?_); rintro e w17 ⟨rfl, hb⟩; refine ⟨_, rfl, ?_⟩; have n0_ := Aside0.mk (below_step (by repeat (first | (with_reducible first | exact HB.out | apply below_alloc | apply pw_below_drewN | apply below_drew1) | exact HB.out)) hb); clear HB; have HB := n0_; clear n0_; (try clear hb); (try clear hb2); (try clear hk); (try clear hi)) | ((with_reducible refine gate_callee (f := 11) rfl ?_); refine goesL_ (some 10) rfl rfl Tryd.func11 (by kernel_rfl) rfl #[.int .i64 65296] rfl (by (try simp only [List.map_toArray, List.map_cons, List.map_nil]); first | done | rfl | (simp only [List.length_drop, List.length_take]; rfl)) ?_; (with_reducible refine (repertoire_Class.calls k 65296 t146 t147 _ A2.out).mono ?_); rintro e w18 ⟨rfl, hb⟩; refine ⟨_, rfl, ?_⟩; have n0_ := Aside0.mk (below_step (by repeat (first | (with_reducible first | exact HB.out | apply below_alloc | apply pw_below_drewN | apply below_drew1) | exact HB.out)) hb); clear HB; have HB := n0_; clear n0_; (try clear hb); (try clear hb2); (try clear hk); (try clear hi)) | (go_at_call 17; (with_reducible refine (repertoire_Count.calls k (⟨#[195, 169]⟩ : ByteArray) t148 _ ?side1 A7.out).mono ?_); (case side1 => exact PTabs.step HT.out (by repeat (first | (with_reducible first | exact HB.out | apply below_alloc | apply pw_below_drewN | apply below_drew1) | exact HB.out))); rintro e w19 ⟨rfl, hb⟩; have n0_ := Aside0.mk (below_step (by repeat (first | (with_reducible first | exact HB.out | apply below_alloc | apply pw_below_drewN | apply below_drew1) | exact HB.out)) hb); clear HB; have HB := n0_; clear n0_; (try clear hb); (try clear hb2); (try clear hk); (try clear hi)) | (go_at_call 20; (with_reducible refine (repertoire_Script.calls k (⟨#[65, 208, 182]⟩ : ByteArray) t149 _ ?side1 A9.out).mono ?_); (case side1 => exact PTabs.step HT.out (by repeat (first | (with_reducible first | exact HB.out | apply below_alloc | apply pw_below_drewN | apply below_drew1) | exact HB.out))); rintro e w20 ⟨rfl, hb⟩; have n0_ := Aside0.mk (below_step (by repeat (first | (with_reducible first | exact HB.out | apply below_alloc | apply pw_below_drewN | apply below_drew1) | exact HB.out)) hb); clear HB; have HB := n0_; clear n0_; (try clear hb); (try clear hb2); (try clear hk); (try clear hi)))
              go_ret
              exact ⟨by first | rfl | (simp [errW_none, errW_some] <;> rfl) | (simp [*, errW_none, errW_some] <;> rfl), by repeat (first | (with_reducible first | exact HB.out | apply below_alloc | apply pw_below_drewN | apply below_drew1) | exact HB.out)⟩
          · rw [if_neg c8] at H
            have c8b0 : (t148 == 1) = false := beq_eq_false_iff_ne.mpr c8
            have c8b1 : (t148 != 1) = true := bne_iff_ne.mpr c8
            obtain rfl := Option.some.inj H
            go_enter Tryd.func10, Tryd.ntmps10
            go_wp2_with (first | ((with_reducible refine gate_callee (f := 11) rfl ?_); refine goesL_ (some 6) rfl rfl Tryd.func11 (by kernel_rfl) rfl #[.int .i64 233] rfl (by (try simp only [List.map_toArray, List.map_cons, List.map_nil]); first | done | rfl | (simp only [List.length_drop, List.length_take]; rfl)) ?_; (with_reducible refine (repertoire_Class.calls k 233 t144 t145 _ A1.out).mono ?_); rintro e w21 ⟨rfl, hb⟩; refine ⟨_, rfl, ?_⟩; have n0_ := Aside0.mk (below_step (by repeat (first | (with_reducible first | exact HB.out | apply below_alloc | apply pw_below_drewN | apply below_drew1) | exact HB.out)) hb); clear HB; have HB := n0_; clear n0_; (try clear hb); (try clear hb2); (try clear hk); (try clear hi)) | ((with_reducible refine gate_callee (f := 11) rfl ?_); refine goesL_ (some 10) rfl rfl Tryd.func11 (by kernel_rfl) rfl #[.int .i64 65296] rfl (by (try simp only [List.map_toArray, List.map_cons, List.map_nil]); first | done | rfl | (simp only [List.length_drop, List.length_take]; rfl)) ?_; (with_reducible refine (repertoire_Class.calls k 65296 t146 t147 _ A2.out).mono ?_); rintro e w22 ⟨rfl, hb⟩; refine ⟨_, rfl, ?_⟩; have n0_ := Aside0.mk (below_step (by repeat (first | (with_reducible first | exact HB.out | apply below_alloc | apply pw_below_drewN | apply below_drew1) | exact HB.out)) hb); clear HB; have HB := n0_; clear n0_; (try clear hb); (try clear hb2); (try clear hk); (try clear hi)) | (go_at_call 17; (with_reducible refine (repertoire_Count.calls k (⟨#[195, 169]⟩ : ByteArray) t148 _ ?side1 A7.out).mono ?_); (case side1 => exact PTabs.step HT.out (by repeat (first | (with_reducible first | exact HB.out | apply below_alloc | apply pw_below_drewN | apply below_drew1) | exact HB.out))); rintro e w23 ⟨rfl, hb⟩; have n0_ := Aside0.mk (below_step (by repeat (first | (with_reducible first | exact HB.out | apply below_alloc | apply pw_below_drewN | apply below_drew1) | exact HB.out)) hb); clear HB; have HB := n0_; clear n0_; (try clear hb); (try clear hb2); (try clear hk); (try clear hi)))
            go_ret
            exact ⟨by first | rfl | (simp [errW_none, errW_some] <;> rfl) | (simp [*, errW_none, errW_some] <;> rfl), by repeat (first | (with_reducible first | exact HB.out | apply below_alloc | apply pw_below_drewN | apply below_drew1) | exact HB.out)⟩
        · rw [if_neg c6] at H
          have c6b0 : (t147 == 3) = false := beq_eq_false_iff_ne.mpr c6
          have c6b1 : (t147 != 3) = true := bne_iff_ne.mpr c6
          obtain rfl := Option.some.inj H
          go_enter Tryd.func10, Tryd.ntmps10
          go_wp2_with (first | ((with_reducible refine gate_callee (f := 11) rfl ?_); refine goesL_ (some 6) rfl rfl Tryd.func11 (by kernel_rfl) rfl #[.int .i64 233] rfl (by (try simp only [List.map_toArray, List.map_cons, List.map_nil]); first | done | rfl | (simp only [List.length_drop, List.length_take]; rfl)) ?_; (with_reducible refine (repertoire_Class.calls k 233 t144 t145 _ A1.out).mono ?_); rintro e w24 ⟨rfl, hb⟩; refine ⟨_, rfl, ?_⟩; have n0_ := Aside0.mk (below_step (by repeat (first | (with_reducible first | exact HB.out | apply below_alloc | apply pw_below_drewN | apply below_drew1) | exact HB.out)) hb); clear HB; have HB := n0_; clear n0_; (try clear hb); (try clear hb2); (try clear hk); (try clear hi)) | ((with_reducible refine gate_callee (f := 11) rfl ?_); refine goesL_ (some 10) rfl rfl Tryd.func11 (by kernel_rfl) rfl #[.int .i64 65296] rfl (by (try simp only [List.map_toArray, List.map_cons, List.map_nil]); first | done | rfl | (simp only [List.length_drop, List.length_take]; rfl)) ?_; (with_reducible refine (repertoire_Class.calls k 65296 t146 t147 _ A2.out).mono ?_); rintro e w25 ⟨rfl, hb⟩; refine ⟨_, rfl, ?_⟩; have n0_ := Aside0.mk (below_step (by repeat (first | (with_reducible first | exact HB.out | apply below_alloc | apply pw_below_drewN | apply below_drew1) | exact HB.out)) hb); clear HB; have HB := n0_; clear n0_; (try clear hb); (try clear hb2); (try clear hk); (try clear hi)))
          go_ret
          exact ⟨by first | rfl | (simp [errW_none, errW_some] <;> rfl) | (simp [*, errW_none, errW_some] <;> rfl), by repeat (first | (with_reducible first | exact HB.out | apply below_alloc | apply pw_below_drewN | apply below_drew1) | exact HB.out)⟩
      · rw [if_neg c5] at H
        have c5b0 : (t146 == 0) = false := beq_eq_false_iff_ne.mpr c5
        have c5b1 : (t146 != 0) = true := bne_iff_ne.mpr c5
        obtain rfl := Option.some.inj H
        go_enter Tryd.func10, Tryd.ntmps10
        go_wp2_with (first | ((with_reducible refine gate_callee (f := 11) rfl ?_); refine goesL_ (some 6) rfl rfl Tryd.func11 (by kernel_rfl) rfl #[.int .i64 233] rfl (by (try simp only [List.map_toArray, List.map_cons, List.map_nil]); first | done | rfl | (simp only [List.length_drop, List.length_take]; rfl)) ?_; (with_reducible refine (repertoire_Class.calls k 233 t144 t145 _ A1.out).mono ?_); rintro e w26 ⟨rfl, hb⟩; refine ⟨_, rfl, ?_⟩; have n0_ := Aside0.mk (below_step (by repeat (first | (with_reducible first | exact HB.out | apply below_alloc | apply pw_below_drewN | apply below_drew1) | exact HB.out)) hb); clear HB; have HB := n0_; clear n0_; (try clear hb); (try clear hb2); (try clear hk); (try clear hi)) | ((with_reducible refine gate_callee (f := 11) rfl ?_); refine goesL_ (some 10) rfl rfl Tryd.func11 (by kernel_rfl) rfl #[.int .i64 65296] rfl (by (try simp only [List.map_toArray, List.map_cons, List.map_nil]); first | done | rfl | (simp only [List.length_drop, List.length_take]; rfl)) ?_; (with_reducible refine (repertoire_Class.calls k 65296 t146 t147 _ A2.out).mono ?_); rintro e w27 ⟨rfl, hb⟩; refine ⟨_, rfl, ?_⟩; have n0_ := Aside0.mk (below_step (by repeat (first | (with_reducible first | exact HB.out | apply below_alloc | apply pw_below_drewN | apply below_drew1) | exact HB.out)) hb); clear HB; have HB := n0_; clear n0_; (try clear hb); (try clear hb2); (try clear hk); (try clear hi)))
        go_ret
        exact ⟨by first | rfl | (simp [errW_none, errW_some] <;> rfl) | (simp [*, errW_none, errW_some] <;> rfl), by repeat (first | (with_reducible first | exact HB.out | apply below_alloc | apply pw_below_drewN | apply below_drew1) | exact HB.out)⟩
    · rw [if_neg c4] at H
      have c4b0 : (t145 == 1) = false := beq_eq_false_iff_ne.mpr c4
      have c4b1 : (t145 != 1) = true := bne_iff_ne.mpr c4
      obtain rfl := Option.some.inj H
      go_enter Tryd.func10, Tryd.ntmps10
      go_wp2_with (first | ((with_reducible refine gate_callee (f := 11) rfl ?_); refine goesL_ (some 6) rfl rfl Tryd.func11 (by kernel_rfl) rfl #[.int .i64 233] rfl (by (try simp only [List.map_toArray, List.map_cons, List.map_nil]); first | done | rfl | (simp only [List.length_drop, List.length_take]; rfl)) ?_; (with_reducible refine (repertoire_Class.calls k 233 t144 t145 _ A1.out).mono ?_); rintro e w28 ⟨rfl, hb⟩; refine ⟨_, rfl, ?_⟩; have n0_ := Aside0.mk (below_step (by repeat (first | (with_reducible first | exact HB.out | apply below_alloc | apply pw_below_drewN | apply below_drew1) | exact HB.out)) hb); clear HB; have HB := n0_; clear n0_; (try clear hb); (try clear hb2); (try clear hk); (try clear hi)) | ((with_reducible refine gate_callee (f := 11) rfl ?_); refine goesL_ (some 10) rfl rfl Tryd.func11 (by kernel_rfl) rfl #[.int .i64 65296] rfl (by (try simp only [List.map_toArray, List.map_cons, List.map_nil]); first | done | rfl | (simp only [List.length_drop, List.length_take]; rfl)) ?_; (with_reducible refine (repertoire_Class.calls k 65296 t146 t147 _ A2.out).mono ?_); rintro e w29 ⟨rfl, hb⟩; refine ⟨_, rfl, ?_⟩; have n0_ := Aside0.mk (below_step (by repeat (first | (with_reducible first | exact HB.out | apply below_alloc | apply pw_below_drewN | apply below_drew1) | exact HB.out)) hb); clear HB; have HB := n0_; clear n0_; (try clear hb); (try clear hb2); (try clear hk); (try clear hi)))
      go_ret
      exact ⟨by first | rfl | (simp [errW_none, errW_some] <;> rfl) | (simp [*, errW_none, errW_some] <;> rfl), by repeat (first | (with_reducible first | exact HB.out | apply below_alloc | apply pw_below_drewN | apply below_drew1) | exact HB.out)⟩
  · rw [if_neg c3] at H
    have c3b0 : (t144 == 1) = false := beq_eq_false_iff_ne.mpr c3
    have c3b1 : (t144 != 1) = true := bne_iff_ne.mpr c3
    obtain rfl := Option.some.inj H
    go_enter Tryd.func10, Tryd.ntmps10
    go_wp2_with (first | ((with_reducible refine gate_callee (f := 11) rfl ?_); refine goesL_ (some 6) rfl rfl Tryd.func11 (by kernel_rfl) rfl #[.int .i64 233] rfl (by (try simp only [List.map_toArray, List.map_cons, List.map_nil]); first | done | rfl | (simp only [List.length_drop, List.length_take]; rfl)) ?_; (with_reducible refine (repertoire_Class.calls k 233 t144 t145 _ A1.out).mono ?_); rintro e w30 ⟨rfl, hb⟩; refine ⟨_, rfl, ?_⟩; have n0_ := Aside0.mk (below_step (by repeat (first | (with_reducible first | exact HB.out | apply below_alloc | apply pw_below_drewN | apply below_drew1) | exact HB.out)) hb); clear HB; have HB := n0_; clear n0_; (try clear hb); (try clear hb2); (try clear hk); (try clear hi)) | ((with_reducible refine gate_callee (f := 11) rfl ?_); refine goesL_ (some 10) rfl rfl Tryd.func11 (by kernel_rfl) rfl #[.int .i64 65296] rfl (by (try simp only [List.map_toArray, List.map_cons, List.map_nil]); first | done | rfl | (simp only [List.length_drop, List.length_take]; rfl)) ?_; (with_reducible refine (repertoire_Class.calls k 65296 t146 t147 _ A2.out).mono ?_); rintro e w31 ⟨rfl, hb⟩; refine ⟨_, rfl, ?_⟩; have n0_ := Aside0.mk (below_step (by repeat (first | (with_reducible first | exact HB.out | apply below_alloc | apply pw_below_drewN | apply below_drew1) | exact HB.out)) hb); clear HB; have HB := n0_; clear n0_; (try clear hb); (try clear hb2); (try clear hk); (try clear hi)))
    go_ret
    exact ⟨by first | rfl | (simp [errW_none, errW_some] <;> rfl) | (simp [*, errW_none, errW_some] <;> rfl), by repeat (first | (with_reducible first | exact HB.out | apply below_alloc | apply pw_below_drewN | apply below_drew1) | exact HB.out)⟩

/-! ### bookplateref04_in: function 31 -/
def bookplateref04_in.f (a0 : Int) (a1 : Int) (a2 : Int) : Option (Bool) := if a0 ≥ a1 then (some (decide (a0 ≤ a2))) else (some false)
set_option maxHeartbeats 8000000 in
set_option maxRecDepth 100000 in
theorem bookplateref04_in.calls (a0 : Int) (a1 : Int) (a2 : Int) (r : Bool) (w : World) (h : bookplateref04_in.f a0 a1 a2 = some r) :
    Calls Tryd.prog 31 #[.int .i64 a0, .int .i64 a1, .int .i64 a2] w fun e w' => e = .returned (.bool r) ∧ Drawn0 w w' := by
  have H : (if a0 ≥ a1 then (some (decide (a0 ≤ a2))) else (some false)) = some r := h
  clear h
  by_cases c4 : a0 ≥ a1
  · rw [if_pos c4] at H
    have c4b0 : decide (a1 ≤ a0) = true := decide_eq_true c4
    clear c4
    obtain rfl := Option.some.inj H
    go_enter Tryd.func31, Tryd.ntmps31
    go_wp2
    go_ret
    exact ⟨by first | rfl | (simp; done) | (simp [*]; done), by repeat (first | exact Drawn0.refl _ | apply Drawn0.step)⟩
  · rw [if_neg c4] at H
    have c4b0 : decide (a1 ≤ a0) = false := decide_eq_false c4
    clear c4
    obtain rfl := Option.some.inj H
    go_enter Tryd.func31, Tryd.ntmps31
    go_wp2
    go_ret
    exact ⟨by first | rfl | (simp; done) | (simp [*]; done), by repeat (first | exact Drawn0.refl _ | apply Drawn0.step)⟩

end
end Go.Proofs.YtmmakaheagjpkaaDoor.Pr
