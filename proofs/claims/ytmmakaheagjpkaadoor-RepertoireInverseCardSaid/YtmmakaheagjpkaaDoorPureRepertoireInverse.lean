/- The plain law RepertoireInverse. -/
import Derived.Test.YtmmakaheagjpkaaDoorEnc
import Derived.Test.YtmmakaheagjpkaaDoorPr20
namespace Go.Proofs.YtmmakaheagjpkaaDoor.Rep
open Go.RowKit Go.Proofs.YtmmakaheagjpkaaDoorW.PrintWords Go.Lib Rune Go.Proofs.YtmmakaheagjpkaaDoor.Pr
set_option linter.unusedVariables false
set_option linter.unusedSimpArgs false

theorem RepertoireInverse : bookplatelaw04_RepertoireInverse.Pure := by
  intro s t hs ht
  refine ⟨3000, ?_⟩
  unfold bookplatelaw04_RepertoireInverse.f
  rw [awake_eq _ (by omega)]
  simp only [Option.bind_some, if_true]
  by_cases h1 : s.size > 200
  · rw [if_pos (by omega)]
    simp only [bookplatelaw04_RepertoireInverse.j0, if_true]
  · rw [if_neg (by omega)]
    rw [bookplatelaw04_RepertoireInverse.j0]
    by_cases h2 : t.size > 200
    · rw [if_pos (by simp; omega)]
    · have hz : (s ++ t).size = s.size + t.size := ByteArray.size_append
      have l1 := decL_length s
      have l2 := decL_length t
      have l3 := decL_length (s ++ t)
      rw [if_neg (by simp; omega), dec_eq s (by omega) _ (by omega), dec_eq t (by omega) _ (by omega), out_dec, out_dec]
      simp only [Option.bind_some]
      rw [if_pos (by omega), dec_eq (s ++ t) (by omega) _ (by omega), out_dec]
      simp only [Option.bind_some]
      cases hd : dec s with
      | none =>
        have e : decL s = [] := by unfold decL; rw [hd]; rfl
        rw [e]
        simp only [Option.isSome_none, Bool.false_eq_true, if_false]
        rw [enc_eq [] (fun _ h => by cases h) (by simp)]
        simp
      | some a =>
        have e : decL s = a := by unfold decL; rw [hd]; rfl
        have ha := enc_dec s a hd
        have happ := dec_append s t a hd
        have hse : repertoire_Encode.f (decL s) = some (s, true) := by
          rw [enc_eq _ (decL_small s) (by omega), e, if_pos ha.1, ha.2]
        rw [hse]
        simp only [Option.isSome_some, if_true]
        cases he : dec t with
        | none =>
          rw [he] at happ
          rw [happ]
          simp
        | some b =>
          rw [he] at happ
          have eb : decL t = b := by unfold decL; rw [he]; rfl
          have eab : decL (s ++ t) = a ++ b := by unfold decL; rw [happ]; rfl
          rw [happ]
          simp only [Option.map_some, Option.isSome_some, bne_self_eq_false, Bool.false_eq_true, if_false, if_true, Option.bind_some, List.nil_append, List.length_nil]
          rw [if_pos (by omega), if_pos (by omega), same_eq _ _ (by omega) _ (by omega), eab, e, eb]
          simp
end Go.Proofs.YtmmakaheagjpkaaDoor.Rep
namespace Go.Proofs.YtmmakaheagjpkaaDoor.Pure
open Go.Proofs.YtmmakaheagjpkaaDoor.Pr
theorem RepertoireInverse : bookplatelaw04_RepertoireInverse.Pure := Rep.RepertoireInverse
end Go.Proofs.YtmmakaheagjpkaaDoor.Pure
