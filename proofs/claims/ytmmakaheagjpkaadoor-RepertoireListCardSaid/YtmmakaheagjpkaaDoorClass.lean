/- What the functions of package repertoire, and of its reference, answer: classes. -/
import Derived.Test.YtmmakaheagjpkaaDoorLetters
import Derived.Test.YtmmakaheagjpkaaDoorPr16
namespace Go.Proofs.YtmmakaheagjpkaaDoor.Rep
open Go.RowKit Go.Proofs.YtmmakaheagjpkaaDoorW.PrintWords Go.Lib Rune Go.Proofs.YtmmakaheagjpkaaDoor.Pr
set_option linter.unusedVariables false
set_option linter.unusedSimpArgs false

theorem latin_range (c : Int) (h : c ∈ latinL) : 192 ≤ c ∧ c ≤ 382 := by
  have : ∀ x ∈ latinL, 192 ≤ x ∧ x ≤ 382 := by decide +kernel
  exact this c h
theorem greek_range (c : Int) (h : c ∈ greekL) : 902 ≤ c ∧ c ≤ 974 ∧ c ≠ 930 := by
  have : ∀ x ∈ greekL, 902 ≤ x ∧ x ≤ 974 ∧ x ≠ 930 := by decide +kernel
  exact this c h
theorem cyrillic_range (c : Int) (h : c ∈ cyrillicL) : 1025 ≤ c ∧ c ≤ 1169 := by
  have : ∀ x ∈ cyrillicL, 1025 ≤ x ∧ x ≤ 1169 := by decide +kernel
  exact this c h

/-- The class of a character that is no fullwidth form. -/
def cls0 (c : Int) : Int × Int :=
  if c = 32 ∨ c = 160 then (0, 4)
  else if (48 ≤ c ∧ c ≤ 57) ∨ c = 178 ∨ c = 179 ∨ c = 185 then (0, 3)
  else if (65 ≤ c ∧ c ≤ 90) ∨ (97 ≤ c ∧ c ≤ 122) ∨ c = 383 ∨ c = 64257 ∨ c = 64258 ∨ c ∈ latinL then (1, 1)
  else if (768 ≤ c ∧ c ≤ 772) ∨ (774 ≤ c ∧ c ≤ 776) ∨ (778 ≤ c ∧ c ≤ 780) ∨ c = 803 ∨ c = 807 ∨ c = 808 then (0, 2)
  else if (913 ≤ c ∧ c ≤ 929) ∨ (931 ≤ c ∧ c ≤ 937) ∨ (945 ≤ c ∧ c ≤ 969) ∨ c ∈ greekL then (2, 1)
  else if (1040 ≤ c ∧ c ≤ 1103) ∨ c ∈ cyrillicL then (3, 1)
  else if 33 ≤ c ∧ c ≤ 126 then (0, 5) else (0, 0)
def cls (c : Int) : Int × Int := cls0 (if 65281 ≤ c ∧ c ≤ 65374 then c - 65248 else c)
def has (c : Int) : Bool := (cls c).2 != 0

theorem contains_letters {L : List Int} (hL : Letters L) (s : ByteArray) (hs : s.data.toList = flat L) (c : Int) (h0 : 0 ≤ c) (h1 : c < 65536) : strings_ContainsRune.f s c = some (decide (c ∈ L)) := by
  unfold strings_ContainsRune.f
  rw [if_pos ⟨good_of hL hs, h0, h1⟩]
  congr 1
  rw [decide_eq_decide]
  exact idx_letters hL hs c h0 h1

theorem from_eq (c a b : Int) : repertoire_from.f c a b = some (decide (a ≤ c ∧ c ≤ b)) := by
  unfold repertoire_from.f
  by_cases h : a ≤ c <;> simp [h]
theorem in_eq (c a b : Int) : bookplateref04_in.f c a b = some (decide (a ≤ c ∧ c ≤ b)) := by
  unfold bookplateref04_in.f
  by_cases h : a ≤ c <;> simp [h]

set_option maxRecDepth 100000 in
set_option maxHeartbeats 1000000 in
theorem letter_eq (k : Nat) (c : Int) (h0 : 32 ≤ c) (h1 : c ≤ 65535) : repertoire_letter.f (k + 3) c = some (if (65 ≤ c ∧ c ≤ 90) ∨ (97 ≤ c ∧ c ≤ 122) ∨ c = 383 ∨ c = 64257 ∨ c = 64258 ∨ c ∈ latinL then 1 else if (913 ≤ c ∧ c ≤ 929) ∨ (931 ≤ c ∧ c ≤ 937) ∨ (945 ≤ c ∧ c ≤ 969) ∨ c ∈ greekL then 2 else if (1040 ≤ c ∧ c ≤ 1103) ∨ c ∈ cyrillicL then 3 else 0) := by
  have hw : wrap32 c = c := by unfold wrap32; omega
  have gL := greek_range c
  unfold repertoire_letter.f
  simp only [repertoire_letter.j0, repertoire_letter.j1, from_eq, hw]
  rw [contains_letters cyrillic_letters _ (by rfl) c (by omega) (by omega), contains_letters greek_letters _ (by rfl) c (by omega) (by omega), contains_letters latin_letters _ (by rfl) c (by omega) (by omega)]
  simp only [Option.bind_some]
  simp only [decide_eq_true_eq]
  grind

theorem mark_eq (k : Nat) (c : Int) : repertoire_mark.f (k + 1) c = some (decide ((768 ≤ c ∧ c ≤ 772) ∨ (774 ≤ c ∧ c ≤ 776) ∨ (778 ≤ c ∧ c ≤ 780) ∨ c = 803 ∨ c = 807 ∨ c = 808)) := by
  unfold repertoire_mark.f
  simp only [repertoire_mark.j0, from_eq, Option.bind_some]
  by_cases h1 : c = 773
  · subst h1; rfl
  · by_cases h2 : c = 777
    · subst h2; rfl
    · rw [if_neg h1, if_neg (by simpa using h2)]
      by_cases h3 : c = 803
      · subst h3; rfl
      · by_cases h4 : c = 807
        · subst h4; rfl
        · by_cases h5 : c = 808
          · subst h5; rfl
          · rw [if_neg h3, if_neg h4, if_neg h5]
            congr 1
            rw [decide_eq_decide]
            omega

set_option maxHeartbeats 1000000 in
theorem class0_eq (k : Nat) (c : Int) : repertoire_Class.j0 (k + 8) c = some (cls0 c) := by
  have hL := latin_range c
  have hG := greek_range c
  have hC := cyrillic_range c
  simp only [repertoire_Class.j0, repertoire_Class.j1]
  unfold cls0
  by_cases h0 : c < 32
  · grind
  · by_cases h1 : 65535 < c
    · grind
    · rw [letter_eq (k + 3) c (by omega) (by omega)]
      simp only [Option.bind_some, repertoire_Class.j2, repertoire_Class.j3, from_eq, mark_eq]
      simp only [decide_eq_true_eq]
      grind (splits := 40)

theorem class_eq (k : Nat) (c : Int) (hc : -9223372036854775808 ≤ c) (hc2 : c ≤ 9223372036854775807) : repertoire_Class.f (k + 8) c = some (cls c) := by
  unfold repertoire_Class.f cls
  rw [from_eq, Option.bind_some]
  by_cases h : 65281 ≤ c ∧ c ≤ 65374
  · rw [if_pos (by simpa using h), if_pos h, class0_eq]
    congr 2; unfold wrap64; omega
  · rw [if_neg (by simpa using h), if_neg h, class0_eq]
theorem has_eq (k : Nat) (c : Int) (hc : -9223372036854775808 ≤ c) (hc2 : c ≤ 9223372036854775807) : repertoire_Has.f (k + 8) c = some (has c) := by
  unfold repertoire_Has.f
  rw [class_eq k c hc hc2]
  rfl

/-! ### the reference -/
def by_ (s : ByteArray) (i : Nat) : Nat := (s.get! i).toNat
theorem bt_by (s : ByteArray) (i : Nat) (h : i < s.size) : bt s (i : Int) = (by_ s i : Int) := by
  unfold bt by_
  rw [dif_pos (by simpa using h)]
  simp [ByteArray.get!, getElem!_pos, h]
  rfl
/-- What stands at a place, by the reference. -/
def atS (s : ByteArray) (i : Nat) : Int × Int :=
  if by_ s i < 128 then (by_ s i, 1)
  else if 194 ≤ by_ s i ∧ by_ s i < 224 ∧ i + 1 < s.size ∧ by_ s (i + 1) / 64 = 2 then (((by_ s i : Int) - 192) * 64 + ((by_ s (i + 1) : Int) - 128), 2)
  else if 224 ≤ by_ s i ∧ by_ s i < 240 ∧ i + 2 < s.size ∧ by_ s (i + 1) / 64 = 2 ∧ by_ s (i + 2) / 64 = 2 ∧ 2048 ≤ ((by_ s i : Int) - 224) * 4096 + ((by_ s (i + 1) : Int) - 128) * 64 + ((by_ s (i + 2) : Int) - 128) then
    (((by_ s i : Int) - 224) * 4096 + ((by_ s (i + 1) : Int) - 128) * 64 + ((by_ s (i + 2) : Int) - 128), 3)
  else (0, 0)
theorem by_lt (s : ByteArray) (i : Nat) : by_ s i < 256 := (s.get! i).toNat_lt

set_option maxHeartbeats 2000000 in
theorem at_eq (k : Nat) (s : ByteArray) (i : Nat) (hs : s.size ≤ 140737488351232) (hi : i < s.size) : bookplateref04_at.f (k + 3) s i = some (atS s i) := by
  have w0 : wrap64 (by_ s i : Int) = by_ s i := by have := by_lt s i; unfold wrap64; omega
  have w1 : wrap64 ((i : Int) + 1) = ((i + 1 : Nat) : Int) := by unfold wrap64; omega
  have w2 : wrap64 ((i : Int) + 2) = ((i + 2 : Nat) : Int) := by unfold wrap64; omega
  have h0 := by_lt s i
  have h1 := by_lt s (i + 1)
  have h2 := by_lt s (i + 2)
  unfold bookplateref04_at.f atS
  rw [bt_by s i hi, if_pos (by omega), if_pos (by omega), w0]
  simp only [bookplateref04_at.j0, bookplateref04_at.j1, w1, w2]
  by_cases c1 : by_ s i < 128
  · rw [if_pos (by omega), if_pos c1]
  · rw [if_neg (by omega), if_neg c1]
    by_cases c2 : i + 1 < s.size
    · rw [bt_by s (i + 1) c2]
      by_cases c3 : i + 2 < s.size
      · rw [bt_by s (i + 2) c3]
        generalize by_ s i = b0 at *
        generalize by_ s (i + 1) = b1 at *
        generalize by_ s (i + 2) = b2 at *
        have e1 : wrap64 ((b0 : Int) - 192) = (b0 : Int) - 192 := by unfold wrap64; omega
        have e2 : wrap64 (((b0 : Int) - 192) * 64) = ((b0 : Int) - 192) * 64 := by unfold wrap64; omega
        have e3 : wrap64 ((b0 : Int) - 224) = (b0 : Int) - 224 := by unfold wrap64; omega
        have e4 : wrap64 (((b0 : Int) - 224) * 4096) = ((b0 : Int) - 224) * 4096 := by unfold wrap64; omega
        simp only [e1, e2, e3, e4]
        by_cases d1 : b1 / 64 = 2
        · have m1 : ((b1 : Int) - 128) % 256 = (b1 : Int) - 128 := by omega
          have e5 : wrap64 (((b0 : Int) - 192) * 64 + ((b1 : Int) - 128)) = ((b0 : Int) - 192) * 64 + ((b1 : Int) - 128) := by unfold wrap64; omega
          have e6 : wrap64 (((b0 : Int) - 224) * 4096 + ((b1 : Int) - 128) * 64) = ((b0 : Int) - 224) * 4096 + ((b1 : Int) - 128) * 64 := by unfold wrap64; omega
          simp only [m1, e5, e6]
          by_cases d2 : b2 / 64 = 2
          · have m2 : ((b2 : Int) - 128) % 256 = (b2 : Int) - 128 := by omega
            have e7 : wrap64 (((b0 : Int) - 224) * 4096 + ((b1 : Int) - 128) * 64 + ((b2 : Int) - 128)) = ((b0 : Int) - 224) * 4096 + ((b1 : Int) - 128) * 64 + ((b2 : Int) - 128) := by unfold wrap64; omega
            simp only [m2, e7]
            grind
          · grind
        · grind
      · generalize by_ s i = b0 at *
        generalize by_ s (i + 1) = b1 at *
        have e1 : wrap64 ((b0 : Int) - 192) = (b0 : Int) - 192 := by unfold wrap64; omega
        have e2 : wrap64 (((b0 : Int) - 192) * 64) = ((b0 : Int) - 192) * 64 := by unfold wrap64; omega
        simp only [e1, e2]
        by_cases d1 : b1 / 64 = 2
        · have m1 : ((b1 : Int) - 128) % 256 = (b1 : Int) - 128 := by omega
          have e5 : wrap64 (((b0 : Int) - 192) * 64 + ((b1 : Int) - 128)) = ((b0 : Int) - 192) * 64 + ((b1 : Int) - 128) := by unfold wrap64; omega
          simp only [m1, e5]
          grind
        · grind
    · grind

theorem at_eq' (k : Nat) (hk : 3 ≤ k) (s : ByteArray) (i : Nat) (hs : s.size ≤ 140737488351232) (hi : i < s.size) : bookplateref04_at.f k s i = some (atS s i) := by
  obtain ⟨m, rfl⟩ : ∃ m, k = m + 3 := ⟨k - 3, by omega⟩
  exact at_eq m s i hs hi

theorem at_flat {L : List Int} (hL : Letters L) {s : ByteArray} (hs : s.data.toList = flat L) (q : Nat) (hq : q < L.length) : atS s (2 * q) = (L[q], 2) := by
  have hsz := size_list s
  rw [hs, flat_length] at hsz
  obtain ⟨g0, g1⟩ := flat_get L q hq
  have hx := hL.two L[q] (List.getElem_mem hq)
  unfold atS by_
  rw [get_bytes s _ hs _ _ g0, get_bytes s _ hs _ _ g1]
  have e0 : (UInt8.ofNat (192 + L[q].toNat / 64)).toNat = 192 + L[q].toNat / 64 := by simp; omega
  have e1 : (UInt8.ofNat (128 + L[q].toNat % 64)).toNat = 128 + L[q].toNat % 64 := by simp; omega
  rw [e0, e1, if_neg (by omega), if_pos (by omega)]
  congr 1
  omega
theorem listed_eq {L : List Int} (hL : Letters L) {s : ByteArray} (hs : s.data.toList = flat L) (c : Int) : ∀ (d q k : Nat), q + d = L.length → d + 4 ≤ k → bookplateref04_listed.l0 k s c ((2 * q : Nat) : Int) = some (decide (c ∈ L.drop q))
  | 0, q, k, hq, hk => by
    obtain ⟨m, rfl⟩ : ∃ m, k = m + 1 := ⟨k - 1, by omega⟩
    have hsz := size_list s
    rw [hs, flat_length] at hsz
    simp only [bookplateref04_listed.l0]
    rw [if_neg (by omega), List.drop_of_length_le (by omega)]
    simp
  | d + 1, q, k, hq, hk => by
    obtain ⟨m, rfl⟩ : ∃ m, k = m + 1 := ⟨k - 1, by omega⟩
    have hsz := size_list s
    rw [hs, flat_length] at hsz
    have hlen := hL.len
    have hql : q < L.length := by omega
    simp only [bookplateref04_listed.l0]
    rw [if_pos (by omega), at_eq' m (by omega) s (2 * q) (by omega) (by omega), at_flat hL hs q hql]
    simp only [Option.bind_some]
    rw [List.drop_eq_getElem_cons hql]
    by_cases hc : L[q] = c
    · rw [if_pos hc, ← hc]; simp only [List.mem_cons, true_or, decide_true]
    · rw [if_neg hc, show wrap64 (((2 * q : Nat) : Int) + 2) = ((2 * (q + 1) : Nat) : Int) from by unfold wrap64; omega, listed_eq hL hs c d (q + 1) m (by omega) (by omega)]
      congr 1
      rw [decide_eq_decide, List.mem_cons]
      exact ⟨fun h => .inr h, fun h => h.resolve_left (fun e => hc e.symm)⟩
theorem listed_all {L : List Int} (hL : Letters L) (s : ByteArray) (hs : s.data.toList = flat L) (c : Int) (k : Nat) (hk : L.length + 4 ≤ k) : bookplateref04_listed.f k s c = some (decide (c ∈ L)) := by
  unfold bookplateref04_listed.f
  exact listed_eq hL hs c L.length 0 k (by omega) hk

set_option maxRecDepth 100000 in
set_option maxHeartbeats 2000000 in
theorem refclass0_eq (k : Nat) (c : Int) : bookplateref04_Class.j0 (k + 320) c = some (cls0 c) := by
  have hL := latin_range c
  have hG := greek_range c
  have hC := cyrillic_range c
  have l1 : latinL.length = 183 := by decide +kernel
  have l2 : greekL.length = 18 := by decide +kernel
  have l3 : cyrillicL.length = 12 := by decide +kernel
  simp only [bookplateref04_Class.j0, bookplateref04_Class.j1, bookplateref04_Class.j2, bookplateref04_Class.j3, bookplateref04_Class.j4, bookplateref04_Class.j5, bookplateref04_Class.j6, in_eq]
  rw [listed_all cyrillic_letters _ (by rfl) c _ (by omega), listed_all greek_letters _ (by rfl) c _ (by omega), listed_all latin_letters _ (by rfl) c _ (by omega)]
  simp only [Option.bind_some, decide_eq_true_eq]
  unfold cls0
  grind (splits := 60)
theorem refclass_eq (k : Nat) (c : Int) (hc : -9223372036854775808 ≤ c) (hc2 : c ≤ 9223372036854775807) : bookplateref04_Class.f (k + 320) c = some (cls c) := by
  unfold bookplateref04_Class.f cls
  rw [in_eq, Option.bind_some]
  by_cases h : 65281 ≤ c ∧ c ≤ 65374
  · rw [if_pos (by simpa using h), if_pos h, refclass0_eq]
    congr 2; unfold wrap64; omega
  · rw [if_neg (by simpa using h), if_neg h, refclass0_eq]
end Go.Proofs.YtmmakaheagjpkaaDoor.Rep
