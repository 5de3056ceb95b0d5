/- The plain law RepertoireEncode. -/
import Derived.Test.YtmmakaheagjpkaaDoorEnc
import Derived.Test.YtmmakaheagjpkaaDoorPr19
namespace Go.Proofs.YtmmakaheagjpkaaDoor.Rep
open Go.RowKit Go.Proofs.YtmmakaheagjpkaaDoorW.PrintWords Go.Lib Rune Go.Proofs.YtmmakaheagjpkaaDoor.Pr
set_option linter.unusedVariables false
set_option linter.unusedSimpArgs false

theorem wf64 {c : Int} (h : (Lit.int .i64 c).wf = true) : -9223372036854775808 ≤ c ∧ c ≤ 9223372036854775807 := by
  simp [Lit.wf, IntKind.min, IntKind.max, IntKind.bits, IntKind.signed] at h
  omega
theorem RepertoireEncode : bookplatelaw04_RepertoireEncode.Pure := by
  intro l hl hl8 hw
  have hs : SmallL l := fun c hc => wf64 (hw c hc)
  refine ⟨3000, ?_⟩
  unfold bookplatelaw04_RepertoireEncode.f
  rw [awake_eq _ (by omega)]
  simp only [Option.bind_some, if_true]
  by_cases h : l.length > 200
  · rw [if_pos (by omega)]
  · rw [if_neg (by omega), enc_eq l hs (by omega), refenc_eq l hs (by omega) _ (by omega)]
    simp only [Option.bind_some, bne_self_eq_false, if_true]
    rw [bookplatelaw04_RepertoireEncode.j0, if_neg (by simp)]
    by_cases ha : l.all has = true
    · have hz : (encB l).size ≤ 4 * l.length := by rw [encB_size]; exact encL_len l
      rw [if_pos ha, dec_eq _ (by show (encB l).size < _; omega) _ (by show (encB l).size + 20 ≤ _; omega)]
      simp only [Option.bind_some]
      rw [dec_enc l ha]
      simp only [out, if_true]
      rw [same_eq _ _ (by omega) _ (by omega)]
      simp
    · rw [if_neg ha, dec_eq _ (by show (encB []).size < _; simp [encB_size, encL]) _ (by show (encB []).size + 20 ≤ _; simp [encB_size, encL])]
      simp
end Go.Proofs.YtmmakaheagjpkaaDoor.Rep
namespace Go.Proofs.YtmmakaheagjpkaaDoor.Pure
open Go.Proofs.YtmmakaheagjpkaaDoor.Pr
theorem RepertoireEncode : bookplatelaw04_RepertoireEncode.Pure := Rep.RepertoireEncode
end Go.Proofs.YtmmakaheagjpkaaDoor.Pure
