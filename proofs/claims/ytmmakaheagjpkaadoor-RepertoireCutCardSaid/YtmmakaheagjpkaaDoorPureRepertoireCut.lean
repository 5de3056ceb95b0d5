/- The plain law RepertoireCut. -/
import Derived.Test.YtmmakaheagjpkaaDoorEnc
import Derived.Test.YtmmakaheagjpkaaDoorPr22
namespace Go.Proofs.YtmmakaheagjpkaaDoor.Rep
open Go.RowKit Go.Proofs.YtmmakaheagjpkaaDoorW.PrintWords Go.Lib Rune Go.Proofs.YtmmakaheagjpkaaDoor.Pr
set_option linter.unusedVariables false
set_option linter.unusedSimpArgs false

theorem wf64 {c : Int} (h : (Lit.int .i64 c).wf = true) : -9223372036854775808 ≤ c ∧ c ≤ 9223372036854775807 := by
  simp [Lit.wf, IntKind.min, IntKind.max, IntKind.bits, IntKind.signed] at h
  omega
/-- The beginning. -/
def cutB (s : ByteArray) (n : Int) : ByteArray := encB ((decL s).take n.toNat)
theorem decL_all (s : ByteArray) : (decL s).all has = true := by
  unfold decL
  cases h : dec s with
  | none => rfl
  | some l => exact (enc_dec s l h).1
theorem take_all (s : ByteArray) (m : Nat) : ((decL s).take m).all has = true := by
  have h := decL_all s
  rw [List.all_eq_true] at h ⊢
  exact fun x hx => h x (List.mem_of_mem_take hx)
theorem take_small (s : ByteArray) (m : Nat) : SmallL ((decL s).take m) := fun c hc => decL_small s c (List.mem_of_mem_take hc)
theorem cutB_none (s : ByteArray) (n : Int) (h : dec s = none) : cutB s n = (⟨#[]⟩ : ByteArray) := by
  unfold cutB decL; rw [h]; simp [encB, encL]
theorem cutB_low (s : ByteArray) (n : Int) (h : n < 1) : cutB s n = (⟨#[]⟩ : ByteArray) := by
  unfold cutB; rw [show n.toNat = 0 by omega]; simp [encB, encL]
theorem cut_eq (s : ByteArray) (hs : s.size < 17592186044416) (n : Int) (k : Nat) (hk : s.size + 20 ≤ k) : repertoire_Cut.f k s n = some (cutB s n) := by
  obtain ⟨m, rfl⟩ : ∃ m, k = m + 1 := ⟨k - 1, by omega⟩
  have hl := decL_length s
  unfold repertoire_Cut.f
  rw [dec_eq s hs _ hk, out_dec]
  simp only [Option.bind_some, repertoire_Cut.j0]
  cases hd : dec s with
  | none => simp [cutB_none s n hd]
  | some l =>
    have e : decL s = l := by unfold decL; rw [hd]; rfl
    have hE := enc_dec s l hd
    simp only [Option.isSome_some, if_true, decide_eq_true_eq]
    by_cases h1 : n < 1
    · rw [if_pos h1, cutB_low s n h1]
    · rw [if_neg h1]
      by_cases h2 : n ≥ ((decL s).length : Int)
      · rw [if_pos h2]
        unfold cutB
        rw [List.take_of_length_le (by omega), e, hE.2]
      · rw [if_neg h2, if_pos (by omega), if_pos (by omega), enc_eq _ (take_small s _) (by rw [List.length_take]; omega), if_pos (take_all s _)]
        rfl
theorem refcut_eq (s : ByteArray) (hs : s.size < 17592186044416) (n : Int) (k : Nat) (hk : s.size + 400 ≤ k) : bookplateref04_Cut.f k s n = some (cutB s n) := by
  have hl := decL_length s
  unfold bookplateref04_Cut.f
  rw [refdec_eq s hs _ hk, out_dec]
  simp only [Option.bind_some]
  by_cases h1 : n < 1
  · rw [if_pos h1, cutB_low s n h1]
  · have hmn : mn n ((decL s).length : Int) = if ((decL s).length : Int) < n then ((decL s).length : Int) else n := rfl
    rw [if_neg h1, hmn]
    by_cases h2 : ((decL s).length : Int) < n
    · rw [if_pos h2, if_pos (by omega), if_pos (by omega), enc_eq' s k _ hs hk]
      simp only [Option.bind_some]
      unfold cutB
      rw [List.take_of_length_le (by omega), List.take_of_length_le (by omega)]
    · rw [if_neg h2, if_pos (by omega), if_pos (by omega), enc_eq' s k _ hs hk]
      rfl
where
  enc_eq' (s : ByteArray) (k m : Nat) (hs : s.size < 17592186044416) (hk : s.size + 400 ≤ k) : bookplateref04_Encode.f k ((decL s).take m) = some (encB ((decL s).take m), true) := by
    have hl := decL_length s
    rw [refenc_eq _ (take_small s _) (by rw [List.length_take]; omega) _ (by rw [List.length_take]; omega), if_pos (take_all s _)]
/-- A decoded string is its beginning and the rest. -/
theorem cut_split (s : ByteArray) (l : List Int) (h : dec s = some l) (m : Nat) : s = encB (l.take m) ++ encB (l.drop m) := by
  rw [← encB_append, List.take_append_drop]
  exact (enc_dec s l h).2.symm
theorem decL_encB (l : List Int) (h : l.all has = true) : decL (encB l) = l := by
  unfold decL; rw [dec_enc l h]; rfl
theorem RepertoireCut : bookplatelaw04_RepertoireCut.Pure := by
  intro s n hs hw
  obtain ⟨n1, n2⟩ := wf64 hw
  refine ⟨3000, ?_⟩
  unfold bookplatelaw04_RepertoireCut.f
  rw [awake_eq _ (by omega)]
  simp only [Option.bind_some, if_true]
  by_cases h : s.size > 200
  · rw [if_pos (by omega)]
  · rw [if_neg (by omega), cut_eq s (by omega) n _ (by omega), refcut_eq s (by omega) n _ (by omega)]
    simp only [Option.bind_some, if_true]
    have hl := decL_length s
    cases hd : dec s with
    | none =>
      rw [cutB_none s n hd]
      rw [show ((⟨#[]⟩ : ByteArray).size) = 0 from rfl, if_neg (by omega), if_pos (by omega), if_pos (by omega)]
      rw [bookplatelaw04_RepertoireCut.j0, dec_eq s (by omega) _ (by omega), hd]
      simp [out]
    | some l =>
      have e : decL s = l := by unfold decL; rw [hd]; rfl
      have hsp := cut_split s l hd n.toNat
      have hcut : cutB s n = encB (l.take n.toNat) := by unfold cutB; rw [e]
      have ht := take_all s n.toNat
      rw [e] at ht
      have hdr : (l.drop n.toNat).all has = true := by
        have h' := decL_all s
        rw [e] at h'
        rw [List.all_eq_true] at h' ⊢
        exact fun x hx => h' x (List.mem_of_mem_drop hx)
      have hz : s.size = (encB (l.take n.toNat)).size + (encB (l.drop n.toNat)).size := by
        conv => lhs; rw [hsp]
        exact ByteArray.size_append
      rw [hcut, if_neg (by omega), if_pos (by omega), if_pos (by omega)]
      have hx : s.extract 0 (encB (l.take n.toNat)).size = encB (l.take n.toNat) := by
        conv => lhs; arg 1; rw [hsp]
        exact ByteArray.extract_append_eq_left rfl
      have hy : s.extract (encB (l.take n.toNat)).size s.size = encB (l.drop n.toNat) := by
        conv => lhs; arg 1; rw [hsp]
        exact ByteArray.extract_append_eq_right rfl (by rw [hz])
      rw [bookplatelaw04_RepertoireCut.j0, hx, hy, dec_eq s (by omega) _ (by omega), hd]
      rw [count_eq _ (by omega) _ (by omega), count_eq s (by omega) _ (by omega), count_eq (encB (l.drop n.toNat)) (by omega) _ (by omega), e, decL_encB _ ht, decL_encB _ hdr]
      simp only [out, Option.bind_some, if_true]
      have q1 : ((l.take n.toNat).length : Int) = mx 0 (mn n (l.length : Int)) := by
        rw [List.length_take]
        unfold mx mn
        split <;> split <;> omega
      rw [← q1, if_neg (by simp), if_pos rfl, if_pos (by omega), if_pos (by omega)]
      have hl2 : l.length ≤ s.size := by rw [← e]; exact hl
      have q2 : ((l.drop n.toNat).length : Int) = wrap64 ((l.length : Int) - ((l.take n.toNat).length : Int)) := by
        rw [List.length_take, List.length_drop]
        unfold wrap64
        omega
      rw [q2]
      simp
end Go.Proofs.YtmmakaheagjpkaaDoor.Rep
namespace Go.Proofs.YtmmakaheagjpkaaDoor.Pure
open Go.Proofs.YtmmakaheagjpkaaDoor.Pr
theorem RepertoireCut : bookplatelaw04_RepertoireCut.Pure := Rep.RepertoireCut
end Go.Proofs.YtmmakaheagjpkaaDoor.Pure
