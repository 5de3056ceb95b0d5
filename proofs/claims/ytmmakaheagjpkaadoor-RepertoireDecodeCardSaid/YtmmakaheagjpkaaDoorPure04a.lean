/- The plain laws of chapter 4 that need no encoding: classes, decoding, scripts. -/
import Derived.Test.YtmmakaheagjpkaaDoorConcat
import Derived.Test.YtmmakaheagjpkaaDoorPr17
import Derived.Test.YtmmakaheagjpkaaDoorPr16
namespace Go.Proofs.YtmmakaheagjpkaaDoor.Rep
open Go.RowKit Go.Proofs.YtmmakaheagjpkaaDoorW.PrintWords Go.Lib Rune Go.Proofs.YtmmakaheagjpkaaDoor.Pr
set_option linter.unusedVariables false
set_option linter.unusedSimpArgs false

theorem wf64 {c : Int} (h : (Lit.int .i64 c).wf = true) : -9223372036854775808 ≤ c ∧ c ≤ 9223372036854775807 := by
  simp [Lit.wf, IntKind.min, IntKind.max, IntKind.bits, IntKind.signed] at h
  omega
theorem RepertoireClass : bookplatelaw04_RepertoireClass.Pure := by
  intro c hc
  obtain ⟨h1, h2⟩ := wf64 hc
  refine ⟨400 + 320, ?_⟩
  unfold bookplatelaw04_RepertoireClass.f
  rw [awake_eq _ (by omega), show 400 + 320 = 712 + 8 from rfl, class_eq 712 c h1 h2, has_eq 712 c h1 h2, show 712 + 8 = 400 + 320 from rfl, refclass_eq 400 c h1 h2]
  simp [has]
theorem RepertoireDecode : bookplatelaw04_RepertoireDecode.Pure := by
  intro s hs
  refine ⟨3000, ?_⟩
  unfold bookplatelaw04_RepertoireDecode.f
  rw [awake_eq _ (by omega)]
  simp only [Option.bind_some, if_true]
  by_cases h : s.size > 500
  · rw [if_pos (by omega)]
  · have hl := decL_length s
    rw [if_neg (by omega), dec_eq s (by omega) _ (by omega), refdec_eq s (by omega) _ (by omega), out_dec, count_eq s (by omega) _ (by omega), valid_eq s (by omega) _ (by omega), refvalid_eq s (by omega) _ (by omega), script_eq s (by omega) _ (by omega), refscript_eq s (by omega) _ (by omega)]
    simp only [Option.bind_some]
    rw [same_eq _ _ (by omega) _ (by omega)]
    simp
theorem RepertoireScripts : bookplatelaw04_RepertoireScripts.Pure := by
  intro s t hs ht
  refine ⟨3000, ?_⟩
  unfold bookplatelaw04_RepertoireScripts.f
  rw [awake_eq _ (by omega)]
  simp only [Option.bind_some, if_true]
  by_cases h1 : s.size > 100
  · rw [if_pos (by omega)]
    simp only [bookplatelaw04_RepertoireScripts.j0, if_true]
  · rw [if_neg (by omega)]
    rw [bookplatelaw04_RepertoireScripts.j0]
    by_cases h2 : t.size > 100
    · rw [if_pos (by simp; omega)]
    · have hz : (s ++ t).size = s.size + t.size := ByteArray.size_append
      rw [if_neg (by simp; omega), dec_eq s (by omega) _ (by omega), dec_eq t (by omega) _ (by omega), out_dec, out_dec]
      simp only [Option.bind_some]
      rw [bookplatelaw04_RepertoireScripts.j1, bookplatelaw04_RepertoireScripts.j1]
      cases hd : dec s with
      | none => simp
      | some a =>
        cases he : dec t with
        | none => simp
        | some b =>
          simp only [Option.isSome_some, if_true, Bool.not_true, Bool.false_eq_true, if_false]
          rw [script_eq s (by omega) _ (by omega), script_eq t (by omega) _ (by omega)]
          simp only [Option.bind_some]
          rw [if_pos (by omega), script_eq (s ++ t) (by omega) _ (by omega)]
          simp only [Option.bind_some]
          rw [script_append s t a b hd he]
          grind
end Go.Proofs.YtmmakaheagjpkaaDoor.Rep
