/- What the functions of package repertoire, and of its reference, answer: decoding, counts, texts, scripts. -/
import Derived.Test.YtmmakaheagjpkaaDoorClass
namespace Go.Proofs.YtmmakaheagjpkaaDoor.Rep
open Go.RowKit Go.Proofs.YtmmakaheagjpkaaDoorW.PrintWords Go.Lib Rune Go.Proofs.YtmmakaheagjpkaaDoor.Pr
set_option linter.unusedVariables false
set_option linter.unusedSimpArgs false

theorem has_range (c : Int) (h : has c = true) : 32 ≤ c ∧ c ≤ 65374 ∧ ¬ (1200 ≤ c ∧ c < 64000) := by
  have hL : ∀ d, d ∈ latinL → 192 ≤ d ∧ d ≤ 382 := latin_range
  have hG : ∀ d, d ∈ greekL → 902 ≤ d ∧ d ≤ 974 ∧ d ≠ 930 := greek_range
  have hC : ∀ d, d ∈ cyrillicL → 1025 ≤ d ∧ d ≤ 1169 := cyrillic_range
  unfold has cls at h
  by_cases hw : 65281 ≤ c ∧ c ≤ 65374
  · omega
  · rw [if_neg hw] at h
    have h1 := hL c
    have h2 := hG c
    have h3 := hC c
    unfold cls0 at h
    grind (splits := 60)

/-- The reference's reading, over bytes. -/
def atN (n b0 b1 b2 : Nat) : Int × Int :=
  if b0 < 128 then (b0, 1)
  else if 194 ≤ b0 ∧ b0 < 224 ∧ 1 < n ∧ b1 / 64 = 2 then (((b0 : Int) - 192) * 64 + ((b1 : Int) - 128), 2)
  else if 224 ≤ b0 ∧ b0 < 240 ∧ 2 < n ∧ b1 / 64 = 2 ∧ b2 / 64 = 2 ∧ 2048 ≤ ((b0 : Int) - 224) * 4096 + ((b1 : Int) - 128) * 64 + ((b2 : Int) - 128) then
    (((b0 : Int) - 224) * 4096 + ((b1 : Int) - 128) * 64 + ((b2 : Int) - 128), 3)
  else (0, 0)
theorem atS_atN (s : ByteArray) (i : Nat) : atS s i = atN (s.size - i) (by_ s i) (by_ s (i + 1)) (by_ s (i + 2)) := by
  unfold atS atN
  simp only [show (1 < s.size - i) = (i + 1 < s.size) from propext ⟨fun h => by omega, fun h => by omega⟩, show (2 < s.size - i) = (i + 2 < s.size) from propext ⟨fun h => by omega, fun h => by omega⟩]

theorem dec_step (n b0 b1 b2 b3 : Nat) (h0 : b0 < 256) (h1 : b1 < 256) (h2 : b2 < 256) (h3 : b3 < 256) :
    (((decodeN n b0 b1 b2 b3).1 : Int) ≠ 65533 ∧ has (decodeN n b0 b1 b2 b3).1 = true ∧ atN n b0 b1 b2 = (((decodeN n b0 b1 b2 b3).1 : Int), ((decodeN n b0 b1 b2 b3).2 : Int))) ∨
      ((((decodeN n b0 b1 b2 b3).1 : Int) = 65533 ∨ has (decodeN n b0 b1 b2 b3).1 = false) ∧ ((atN n b0 b1 b2).2 = 0 ∨ has (atN n b0 b1 b2).1 = false)) := by
  have hn : ∀ c : Int, ¬ (32 ≤ c ∧ c ≤ 65374 ∧ ¬ (1200 ≤ c ∧ c < 64000)) → has c = false := fun c hc => by
    cases hh : has c with
    | false => rfl
    | true => exact absurd (has_range c hh) hc
  unfold decodeN
  by_cases c0 : b0 < 128
  · rw [if_pos c0]
    have ha : atN n b0 b1 b2 = ((b0 : Int), 1) := by unfold atN; rw [if_pos c0]
    rw [ha]
    rcases Bool.eq_false_or_eq_true (has (b0 : Int)) with hh | hh
    · exact .inl ⟨by show ((b0 : Nat) : Int) ≠ 65533; omega, hh, rfl⟩
    · exact .inr ⟨.inr hh, .inr hh⟩
  · rw [if_neg c0]
    by_cases c1 : b0 / 32 = 6 ∧ (1 < n ∧ b1 / 64 = 2)
    · rw [if_pos c1]
      by_cases c2 : b0 % 32 * 64 + b1 % 64 ≥ 128
      · rw [if_pos c2]
        have ha : atN n b0 b1 b2 = (((b0 % 32 * 64 + b1 % 64 : Nat) : Int), 2) := by
          unfold atN
          rw [if_neg c0, if_pos (by omega)]
          congr 1; omega
        rw [ha]
        rcases Bool.eq_false_or_eq_true (has ((b0 % 32 * 64 + b1 % 64 : Nat) : Int)) with hh | hh
        · exact .inl ⟨by show ((b0 % 32 * 64 + b1 % 64 : Nat) : Int) ≠ 65533; omega, hh, rfl⟩
        · exact .inr ⟨.inr hh, .inr hh⟩
      · rw [if_neg c2]
        have ha : atN n b0 b1 b2 = (0, 0) := by
          unfold atN
          rw [if_neg c0, if_neg (by omega), if_neg (by omega)]
        rw [ha]
        exact .inr ⟨.inl rfl, .inl rfl⟩
    · rw [if_neg c1]
      by_cases c3 : b0 / 16 = 14 ∧ (1 < n ∧ b1 / 64 = 2) ∧ (2 < n ∧ b2 / 64 = 2)
      · rw [if_pos c3]
        have ha : atN n b0 b1 b2 = if 2048 ≤ b0 % 16 * 4096 + b1 % 64 * 64 + b2 % 64 then (((b0 % 16 * 4096 + b1 % 64 * 64 + b2 % 64 : Nat) : Int), 3) else (0, 0) := by
          unfold atN
          rw [if_neg c0, if_neg (by omega)]
          by_cases c4 : 2048 ≤ b0 % 16 * 4096 + b1 % 64 * 64 + b2 % 64
          · rw [if_pos c4, if_pos (by omega)]
            congr 1; omega
          · rw [if_neg c4, if_neg (by omega)]
        rw [ha]
        generalize hv : b0 % 16 * 4096 + b1 % 64 * 64 + b2 % 64 = v
        have hv2 : v < 65536 := by omega
        by_cases c4 : v ≥ 2048 ∧ (v < 55296 ∨ 57344 ≤ v ∧ v ≤ 1114111)
        · rw [if_pos c4, if_pos c4.1]
          rcases Bool.eq_false_or_eq_true (has ((v : Nat) : Int)) with hh | hh
          · exact .inl ⟨by have := has_range _ hh; show ((v : Nat) : Int) ≠ 65533; omega, hh, rfl⟩
          · exact .inr ⟨.inr hh, .inr hh⟩
        · rw [if_neg c4]
          refine .inr ⟨.inl rfl, ?_⟩
          by_cases c5 : 2048 ≤ v
          · rw [if_pos c5]; exact .inr (hn _ (by show ¬ _; omega))
          · rw [if_neg c5]; exact .inl rfl
      · rw [if_neg c3]
        have ha : atN n b0 b1 b2 = (0, 0) := by
          unfold atN
          rw [if_neg c0, if_neg (by omega), if_neg (by omega)]
        rw [ha]
        refine .inr ⟨?_, .inl rfl⟩
        by_cases c6 : b0 / 8 = 30 ∧ (1 < n ∧ b1 / 64 = 2) ∧ (2 < n ∧ b2 / 64 = 2) ∧ (3 < n ∧ b3 / 64 = 2)
        · rw [if_pos c6]
          split
          · refine .inr (hn _ ?_)
            show ¬ (32 ≤ ((_ : Nat) : Int) ∧ _)
            omega
          · exact .inl rfl
        · rw [if_neg c6]; exact .inl rfl

theorem get_extract (s : ByteArray) (i k : Nat) (h : i + k < s.size) : (s.extract i s.size).get! k = s.get! (i + k) := by
  have h1 : (s.extract i s.size).data.toList[k]? = some (s[i + k]'h) := by
    rw [extract_data, List.getElem?_take, List.getElem?_drop, if_pos (by omega), at_list s _ h]
  rw [get_bytes _ _ rfl k _ h1]
  symm
  exact get_bytes s _ rfl _ _ (at_list s _ h)
theorem extract_size (s : ByteArray) (i : Nat) (h : i ≤ s.size) : (s.extract i s.size).size = s.size - i := by
  rw [ByteArray.size_extract]; omega
/-- What the program reads at the head of what is left is what the reference reads at its place. -/
theorem step_at (s : ByteArray) (i : Nat) (h : i < s.size) :
    (((decodeGo (s.extract i s.size)).1 : Int) ≠ 65533 ∧ has (decodeGo (s.extract i s.size)).1 = true ∧ atS s i = (((decodeGo (s.extract i s.size)).1 : Int), ((decodeGo (s.extract i s.size)).2 : Int))) ∨
      ((((decodeGo (s.extract i s.size)).1 : Int) = 65533 ∨ has (decodeGo (s.extract i s.size)).1 = false) ∧ ((atS s i).2 = 0 ∨ has (atS s i).1 = false)) := by
  have hz : (s.extract i s.size).size = s.size - i := extract_size s i (by omega)
  have hd : decodeGo (s.extract i s.size) = decodeN (s.size - i) (by_ s i) ((s.extract i s.size).get! 1).toNat ((s.extract i s.size).get! 2).toNat ((s.extract i s.size).get! 3).toNat := by
    unfold decodeGo
    rw [if_neg (by omega), decode_at, hz]
    have := get_extract s i 0 (by omega)
    simp only [Nat.add_zero] at this
    rw [Nat.sub_zero, Nat.zero_add, Nat.zero_add, Nat.zero_add, this]
    rfl
  have ha : atS s i = atN (s.size - i) (by_ s i) ((s.extract i s.size).get! 1).toNat ((s.extract i s.size).get! 2).toNat := by
    rw [atS_atN]
    unfold atN
    by_cases h1 : i + 1 < s.size
    · rw [get_extract s i 1 h1]
      by_cases h2 : i + 2 < s.size
      · rw [get_extract s i 2 h2]; rfl
      · have e2 : ¬ 2 < s.size - i := by omega
        simp only [e2, false_and, and_false, if_false]; rfl
    · have e1 : ¬ 1 < s.size - i := by omega
      have e2 : ¬ 2 < s.size - i := by omega
      simp only [e1, e2, false_and, and_false, if_false]
  rw [hd, ha]
  exact dec_step _ _ _ _ _ (by_lt s i) (UInt8.toNat_lt _) (UInt8.toNat_lt _) (UInt8.toNat_lt _)

/-- Decoding. -/
def decGo (s : ByteArray) : Nat → Nat → List Int → Option (List Int)
  | 0, i, acc => if i < s.size then none else some acc
  | f + 1, i, acc => if i < s.size then (if (atS s i).2 = 0 ∨ has (atS s i).1 = false then none else decGo s f (i + (atS s i).2.toNat) (acc ++ [(atS s i).1])) else some acc
def dec (s : ByteArray) : Option (List Int) := decGo s s.size 0 []
/-- The two results. -/
def out (o : Option (List Int)) : List Int × Bool := match o with | some l => (l, true) | none => ([], false)

theorem atS_width (s : ByteArray) (i : Nat) (hi : i < s.size) : (atS s i).2 = 0 ∨ (1 ≤ (atS s i).2 ∧ (atS s i).2 ≤ 3 ∧ i + (atS s i).2.toNat ≤ s.size ∧ 0 ≤ (atS s i).1 ∧ (atS s i).1 < 65536) := by
  unfold atS
  have h0 := by_lt s i
  have h1 := by_lt s (i + 1)
  have h2 := by_lt s (i + 2)
  split
  · exact .inr ⟨by omega, by omega, by show i + 1 ≤ _; omega, by show (0 : Int) ≤ ((_ : Nat) : Int); omega, by show ((_ : Nat) : Int) < 65536; omega⟩
  · split
    · rename_i h
      exact .inr ⟨by omega, by omega, by show i + 2 ≤ _; omega, by show (0 : Int) ≤ _; omega, by show _ < (65536 : Int); omega⟩
    · split
      · rename_i h
        exact .inr ⟨by omega, by omega, by show i + 3 ≤ _; omega, by show (0 : Int) ≤ _; omega, by show _ < (65536 : Int); omega⟩
      · exact .inl rfl

theorem refdec_go (s : ByteArray) (hs : s.size ≤ 140737488351232) : ∀ (f i : Nat) (acc : List Int) (k : Nat), s.size ≤ i + f → i ≤ s.size → acc.length ≤ i → i + 400 + f ≤ k + i → s.size < 17592186044416 → bookplateref04_Decode.l0 k s acc i = some (out (decGo s f i acc))
  | 0, i, acc, k, h1, h2, h3, h4, h5 => by
    obtain ⟨m, rfl⟩ : ∃ m, k = m + 1 := ⟨k - 1, by omega⟩
    simp only [bookplateref04_Decode.l0, decGo]
    rw [if_neg (by omega), if_neg (by omega)]; rfl
  | f + 1, i, acc, k, h1, h2, h3, h4, h5 => by
    obtain ⟨m, rfl⟩ : ∃ m, k = m + 1 := ⟨k - 1, by omega⟩
    simp only [bookplateref04_Decode.l0, decGo]
    by_cases hi : i < s.size
    · rw [if_pos (by omega), if_pos hi, at_eq' m (by omega) s i hs hi]
      simp only [Option.bind_some]
      rcases atS_width s i hi with hw | ⟨w1, w2, w3, w4, w5⟩
      · rw [if_pos hw, if_pos (.inl hw)]; rfl
      · rw [if_neg (by omega)]
        unfold bookplateref04_Has.f
        obtain ⟨m', rfl⟩ : ∃ m', m = m' + 320 := ⟨m - 320, by omega⟩
        rw [refclass_eq m' _ (by omega) (by omega)]
        simp only [Option.bind_some]
        have hh : ((cls (atS s i).1).2 != 0) = has (atS s i).1 := rfl
        rw [hh]
        cases hc : has (atS s i).1 with
        | true =>
          rw [if_pos rfl, if_pos (by omega), if_neg (by rintro (h | h); omega; cases h)]
          have hwr : wrap64 ((i : Int) + (atS s i).2) = ((i + (atS s i).2.toNat : Nat) : Int) := by unfold wrap64; omega
          rw [hwr]
          exact refdec_go s hs f _ _ _ (by omega) (by omega) (by rw [List.length_append]; simp; omega) (by omega) h5
        | false =>
          rw [if_neg (by simp), if_pos (.inr rfl)]; rfl
    · rw [if_neg (by omega), if_neg hi]; rfl
theorem refdec_eq (s : ByteArray) (hs : s.size < 17592186044416) (k : Nat) (hk : s.size + 400 ≤ k) : bookplateref04_Decode.f k s = some (out (dec s)) := by
  unfold bookplateref04_Decode.f dec
  exact refdec_go s (by omega) s.size 0 [] k (by omega) (by omega) (by simp) (by omega) hs

theorem progdec_go (s : ByteArray) (hs : s.size < 17592186044416) : ∀ (f i : Nat) (acc : List Int) (k : Nat), s.size ≤ i + f → i ≤ s.size → acc.length ≤ i → f + 20 ≤ k → repertoire_Decode.l0 k (s.extract i s.size) acc = some (out (decGo s f i acc))
  | 0, i, acc, k, h1, h2, h3, h4 => by
    obtain ⟨m, rfl⟩ : ∃ m, k = m + 1 := ⟨k - 1, by omega⟩
    simp only [repertoire_Decode.l0, decGo]
    rw [extract_size s i h2, if_neg (by omega), if_neg (by omega)]; rfl
  | f + 1, i, acc, k, h1, h2, h3, h4 => by
    obtain ⟨m, rfl⟩ : ∃ m, k = m + 1 := ⟨k - 1, by omega⟩
    simp only [repertoire_Decode.l0, decGo]
    by_cases hi : i < s.size
    · rw [extract_size s i h2, if_pos (by omega), if_pos hi]
      unfold utf8_DecodeRuneInString.f
      simp only [Option.bind_some]
      rcases step_at s i hi with ⟨c1, c2, c3⟩ | ⟨c1, c2⟩
      · have hr := has_range _ c2
        rw [if_neg c1]
        have hw : wrap64 ((decodeGo (s.extract i s.size)).1 : Int) = ((decodeGo (s.extract i s.size)).1 : Int) := by unfold wrap64; omega
        rw [hw]
        obtain ⟨m', rfl⟩ : ∃ m', m = m' + 8 := ⟨m - 8, by omega⟩
        rw [has_eq m' _ (by omega) (by omega), c2]
        simp only [Option.bind_some, if_true]
        have hwd := atS_width s i hi
        rw [c3] at hwd ⊢
        simp only at hwd
        rcases hwd with hwd | ⟨w1, w2, w3, _⟩
        · have := decode_width (s.extract i s.size) (by rw [extract_size s i h2]; omega)
          omega
        · rw [if_pos (by omega), if_pos (by omega), if_pos (by omega), if_neg (by rintro (h | h); omega; rw [c2] at h; cases h)]
          have he : (s.extract i s.size).extract ((decodeGo (s.extract i s.size)).2 : Int).toNat (s.size - i) = s.extract (i + ((decodeGo (s.extract i s.size)).2 : Int).toNat) s.size := by
            rw [ByteArray.extract_extract]; congr 1; omega
          rw [he]
          exact progdec_go s hs f _ _ _ (by omega) (by omega) (by rw [List.length_append]; simp; omega) (by omega)
      · rw [if_pos c2]
        by_cases c4 : ((decodeGo (s.extract i s.size)).1 : Int) = 65533
        · rw [if_pos c4]; rfl
        · rw [if_neg c4]
          have hf : has (decodeGo (s.extract i s.size)).1 = false := c1.resolve_left c4
          have hle : ((decodeGo (s.extract i s.size)).1 : Int) ≤ 2147483647 := decode_small _
          have hw : wrap64 ((decodeGo (s.extract i s.size)).1 : Int) = ((decodeGo (s.extract i s.size)).1 : Int) := by unfold wrap64; omega
          rw [hw]
          obtain ⟨m', rfl⟩ : ∃ m', m = m' + 8 := ⟨m - 8, by omega⟩
          rw [has_eq m' _ (by omega) (by omega), hf]
          simp only [Option.bind_some]
          rfl
    · rw [extract_size s i h2, if_neg (by omega), if_neg hi]; rfl
where
  decode_width (t : ByteArray) (ht : 0 < t.size) : 1 ≤ (decodeGo t).2 := by
    unfold decodeGo
    rw [if_neg (by omega)]
    by_cases h : (t[0]'ht).toNat < 128
    · rw [decode_ascii t 0 ht h]; exact Nat.le_refl _
    · exact (decode_high t 0 ht (by omega)).2
  decode_small (t : ByteArray) : ((decodeGo t).1 : Int) ≤ 2147483647 := by
    unfold decodeGo
    split
    · show ((65533 : Nat) : Int) ≤ _; omega
    · have := decode_le t 0
      omega
theorem dec_eq (s : ByteArray) (hs : s.size < 17592186044416) (k : Nat) (hk : s.size + 20 ≤ k) : repertoire_Decode.f k s = some (out (dec s)) := by
  unfold repertoire_Decode.f dec
  rw [if_pos (by omega), if_pos (by omega)]
  have := progdec_go s hs s.size 0 [] k (by omega) (by omega) (by simp) hk
  rwa [show s.extract 0 s.size = s from by simp] at this
end Go.Proofs.YtmmakaheagjpkaaDoor.Rep
