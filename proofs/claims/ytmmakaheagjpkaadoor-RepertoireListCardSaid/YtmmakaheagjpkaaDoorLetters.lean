/- Plain facts: the three strings of letters as lists of numbers; strings.ContainsRune over them. -/
import Derived.Test.YtmmakaheagjpkaaDoorRune
namespace Go.Proofs.YtmmakaheagjpkaaDoor.Rep
open Go.RowKit Go.Proofs.YtmmakaheagjpkaaDoorW.PrintWords Go.Lib Rune
set_option linter.unusedVariables false
set_option linter.unusedSimpArgs false

/-- The bytes of characters of two bytes. -/
def flat (L : List Int) : List UInt8 := L.flatMap fun r => [UInt8.ofNat (192 + r.toNat / 64), UInt8.ofNat (128 + r.toNat % 64)]
def latinL : List Int := [192, 200, 204, 210, 217, 224, 232, 236, 242, 249, 193, 201, 205, 211, 218, 221, 225, 233, 237, 243, 250, 253, 262, 263, 313, 314, 323, 324, 340, 341, 346, 347, 377, 378, 194, 202, 206, 212, 219, 226, 234, 238, 244, 251, 264, 265, 284, 285, 292, 293, 308, 309, 348, 349, 372, 373, 374, 375, 195, 209, 213, 227, 241, 245, 296, 297, 360, 361, 256, 257, 274, 275, 298, 299, 332, 333, 362, 363, 258, 259, 276, 277, 286, 287, 300, 301, 334, 335, 364, 365, 266, 267, 278, 279, 288, 289, 304, 379, 380, 196, 203, 207, 214, 220, 228, 235, 239, 246, 252, 255, 376, 197, 229, 366, 367, 336, 337, 368, 369, 268, 269, 270, 271, 282, 283, 327, 328, 344, 345, 352, 353, 356, 357, 381, 382, 317, 318, 199, 231, 290, 291, 310, 311, 315, 316, 325, 326, 342, 343, 350, 351, 354, 355, 260, 261, 280, 281, 302, 303, 370, 371, 198, 230, 216, 248, 208, 240, 222, 254, 223, 272, 273, 294, 295, 305, 321, 322, 338, 339, 330, 331, 358, 359]
def greekL : List Int := [902, 904, 905, 906, 908, 910, 911, 940, 941, 942, 943, 972, 973, 974, 938, 939, 970, 971]
def cyrillicL : List Int := [1025, 1105, 1031, 1111, 1028, 1108, 1168, 1169, 1038, 1118, 1030, 1110]

theorem flat_length (L : List Int) : (flat L).length = 2 * L.length := by
  induction L with
  | nil => rfl
  | cons x l ih => unfold flat at ih ⊢; rw [List.flatMap_cons, List.length_append, ih]; simp; omega
theorem flat_cons (x : Int) (L : List Int) : flat (x :: L) = UInt8.ofNat (192 + x.toNat / 64) :: UInt8.ofNat (128 + x.toNat % 64) :: flat L := rfl
/-- Two bytes that stand in a flat list are a character of it. -/
theorem mem_of_occ (r : Int) (h1 : 128 ≤ r) (h2 : r < 2048) : ∀ (L : List Int), (∀ x ∈ L, 128 ≤ x ∧ x < 2048) → (∃ j, occAt (flat L) [UInt8.ofNat (192 + r.toNat / 64), UInt8.ofNat (128 + r.toNat % 64)] j = true) → r ∈ L
  | [], _, ⟨j, hj⟩ => by simp [occAt, flat] at hj
  | x :: L, hL, ⟨j, hj⟩ => by
    have hx := hL x (List.mem_cons_self ..)
    match j, hj with
    | 0, hj =>
      simp only [occAt, flat_cons, List.drop_zero, List.isPrefixOf, Bool.and_eq_true, beq_iff_eq] at hj
      obtain ⟨e1, e2, _⟩ := hj
      have f1 := congrArg UInt8.toNat e1
      have f2 := congrArg UInt8.toNat e2
      simp at f1 f2
      have : r = x := by omega
      rw [this]; exact List.mem_cons_self ..
    | 1, hj =>
      simp only [occAt, flat_cons, List.drop_succ_cons, List.drop_zero, List.isPrefixOf, Bool.and_eq_true, beq_iff_eq] at hj
      have f1 := congrArg UInt8.toNat hj.1
      simp at f1
      omega
    | j + 2, hj =>
      refine List.mem_cons_of_mem _ (mem_of_occ r h1 h2 L (fun y hy => hL y (List.mem_cons_of_mem _ hy)) ⟨j, ?_⟩)
      simpa only [occAt, flat_cons, List.drop_succ_cons] using hj
theorem occ_of_mem (r : Int) : ∀ (L : List Int), r ∈ L → ∃ j, j ≤ (flat L).length ∧ occAt (flat L) [UInt8.ofNat (192 + r.toNat / 64), UInt8.ofNat (128 + r.toNat % 64)] j = true
  | x :: L, h => by
    rcases List.mem_cons.1 h with rfl | h
    · exact ⟨0, by omega, by simp [occAt, flat_cons, List.isPrefixOf]⟩
    · obtain ⟨j, hl, hj⟩ := occ_of_mem r L h
      refine ⟨j + 2, by rw [flat_length] at hl ⊢; simp at hl ⊢; omega, ?_⟩
      simpa only [occAt, flat_cons, List.drop_succ_cons] using hj
theorem no_high (r : Int) (a b c : UInt8) (ha : 224 ≤ a.toNat) : ∀ (L : List Int), (∀ x ∈ L, 128 ≤ x ∧ x < 2048) → ∀ j, occAt (flat L) [a, b, c] j = false
  | [], _, j => by simp [occAt, flat]
  | x :: L, hL, j => by
    have hx := hL x (List.mem_cons_self ..)
    match j with
    | 0 =>
      cases h : occAt (flat (x :: L)) [a, b, c] 0 with
      | false => rfl
      | true =>
        simp only [occAt, flat_cons, List.drop_zero, List.isPrefixOf, Bool.and_eq_true, beq_iff_eq] at h
        have f1 := congrArg UInt8.toNat h.1
        simp at f1
        omega
    | 1 =>
      cases h : occAt (flat (x :: L)) [a, b, c] 1 with
      | false => rfl
      | true =>
        simp only [occAt, flat_cons, List.drop_succ_cons, List.drop_zero, List.isPrefixOf, Bool.and_eq_true, beq_iff_eq] at h
        have f1 := congrArg UInt8.toNat h.1
        simp at f1
        omega
    | j + 2 =>
      have := no_high r a b c ha L (fun y hy => hL y (List.mem_cons_of_mem _ hy)) j
      simpa only [occAt, flat_cons, List.drop_succ_cons] using this
theorem no_ascii (c : UInt8) (hc : c.toNat < 128) : ∀ (L : List Int), (∀ x ∈ L, 128 ≤ x ∧ x < 2048) → Lib.indexByte (flat L) c = -1
  | [], _ => rfl
  | x :: L, hL => by
    have hx := hL x (List.mem_cons_self ..)
    have ih := no_ascii c hc L (fun y hy => hL y (List.mem_cons_of_mem _ hy))
    have n1 : (UInt8.ofNat (192 + x.toNat / 64) == c) = false := by
      rw [beq_eq_false_iff_ne]; intro e
      have := congrArg UInt8.toNat e
      simp at this; omega
    have n2 : (UInt8.ofNat (128 + x.toNat % 64) == c) = false := by
      rw [beq_eq_false_iff_ne]; intro e
      have := congrArg UInt8.toNat e
      simp at this; omega
    simp only [flat_cons, Lib.indexByte, n1, n2, ih]
    rfl
theorem index_nonneg {s t : List UInt8} (ht : t ≠ []) : (0 ≤ Lib.index s t) ↔ ∃ j, j ≤ s.length ∧ occAt s t j = true := by
  constructor
  · intro h
    refine Classical.byContradiction fun hn => ?_
    have := index_none (s := s) (sub := t) (fun j hj => by
      cases ho : occAt s t j with
      | false => rfl
      | true => exact absurd ⟨j, hj, ho⟩ hn)
    omega
  · rintro ⟨j, hj, ho⟩
    have hge := Lib.index_ge s t
    refine Classical.byContradiction fun hn => ?_
    have he : Lib.index s t = -1 := by omega
    obtain ⟨i, hi, hno, hi2⟩ : ∃ i, i ≤ s.length ∧ (∀ k, k < i → occAt s t k = false) ∧ occAt s t i = true := by
      have : ∀ n, (∃ k, k ≤ n ∧ occAt s t k = true) → ∃ i, i ≤ n ∧ (∀ k, k < i → occAt s t k = false) ∧ occAt s t i = true := by
        intro n
        induction n using Nat.strongRecOn with
        | _ n ih =>
          rintro ⟨k, hk, hk2⟩
          by_cases hex : ∃ k', k' < k ∧ occAt s t k' = true
          · obtain ⟨k', hk', ho'⟩ := hex
            obtain ⟨i, hi, h1, h2⟩ := ih k' (by omega) ⟨k', Nat.le_refl _, ho'⟩
            exact ⟨i, by omega, h1, h2⟩
          · refine ⟨k, hk, fun k' hk' => ?_, hk2⟩
            cases ho' : occAt s t k' with
            | false => rfl
            | true => exact absurd ⟨k', hk', ho'⟩ hex
      obtain ⟨i, hi, h1, h2⟩ := this j ⟨j, Nat.le_refl _, ho⟩
      exact ⟨i, by omega, h1, h2⟩
    have := index_hit (i := i) hno hi hi2
    omega

/-- What is asked of a list of letters. -/
structure Letters (L : List Int) : Prop where
  two : ∀ x ∈ L, 128 ≤ x ∧ x < 2048
  len : L.length < 1000000
  few : ∀ n, n < 64 → (flat L).count (UInt8.ofNat (128 + n)) ≤ 3
  start : ∀ n, n < 64 → ((flat L).take 7).count (UInt8.ofNat (128 + n)) ≤ 2
theorem flat_get (L : List Int) (q : Nat) (hq : q < L.length) : (flat L)[2 * q]? = some (UInt8.ofNat (192 + L[q].toNat / 64)) ∧ (flat L)[2 * q + 1]? = some (UInt8.ofNat (128 + L[q].toNat % 64)) := by
  induction L generalizing q with
  | nil => simp at hq
  | cons x l ih =>
    cases q with
    | zero => simp [flat_cons]
    | succ q =>
      have := ih q (by simpa using hq)
      simpa [flat_cons, Nat.mul_add] using this
theorem get_bytes (s : ByteArray) (l : List UInt8) (h : s.data.toList = l) (k : Nat) (c : UInt8) (hk : l[k]? = some c) : (s.get! k) = c := by
  subst h
  have hl : k < s.size := by
    have := (List.getElem?_eq_some_iff.1 hk).1
    rwa [size_list] at this
  rw [at_list s k hl] at hk
  rw [← Option.some.inj hk]
  simp [ByteArray.get!, getElem!_pos, hl]
  rfl
theorem good_of {L : List Int} (hL : Letters L) {s : ByteArray} (hs : s.data.toList = flat L) : Rune.Good s where
  size := by
    have := size_list s
    rw [hs, flat_length] at this
    have := hL.len
    omega
  two := fun p hp hp2 => by
    have hsz := size_list s
    rw [hs, flat_length] at hsz
    obtain ⟨q, rfl⟩ : ∃ q, p = 2 * q := ⟨p / 2, by omega⟩
    have hq : q < L.length := by omega
    obtain ⟨g0, g1⟩ := flat_get L q hq
    have hx := hL.two L[q] (List.getElem_mem hq)
    rw [Lib.decode_at, get_bytes s _ hs _ _ g0, get_bytes s _ hs _ _ g1]
    generalize (s.get! (2 * q + 2)).toNat = b2
    generalize (s.get! (2 * q + 3)).toNat = b3
    have e0 : (UInt8.ofNat (192 + L[q].toNat / 64)).toNat = 192 + L[q].toNat / 64 := by simp; omega
    have e1 : (UInt8.ofNat (128 + L[q].toNat % 64)).toNat = 128 + L[q].toNat % 64 := by simp; omega
    rw [e0, e1]
    unfold Lib.decodeN
    rw [if_neg (by omega), if_pos (by omega), if_pos (by omega)]
    exact ⟨rfl, by show _ ≠ 65533; omega⟩
  few := fun b i hb1 hb2 hi => by
    unfold cnt
    rw [hs]
    have hb : b = UInt8.ofNat (128 + (b.toNat - 128)) := by
      rw [show 128 + (b.toNat - 128) = b.toNat from by omega]; simp
    have h3 := hL.few (b.toNat - 128) (by omega)
    have h2 := hL.start (b.toNat - 128) (by omega)
    rw [← hb] at h3 h2
    by_cases h8 : i ≤ 7
    · have : ((flat L).take i).count b ≤ ((flat L).take 7).count b := (List.take_sublist_take_left h8).count_le _
      omega
    · have : ((flat L).take i).count b ≤ (flat L).count b := (List.take_sublist _ _).count_le _
      omega
theorem idx_letters {L : List Int} (hL : Letters L) {s : ByteArray} (hs : s.data.toList = flat L) (r : Int) (h0 : 0 ≤ r) (h1 : r < 65536) : (0 ≤ idx s r) ↔ r ∈ L := by
  unfold idx
  by_cases h128 : r < 128
  · rw [if_pos h128, hs, no_ascii _ (by simp; omega) L hL.two]
    exact ⟨fun h => by omega, fun h => by have := hL.two r h; omega⟩
  · rw [if_neg h128]
    by_cases hb : r = 65533 ∨ Utf8.valid r = false
    · rw [if_pos hb]
      refine ⟨fun h => by omega, fun h => ?_⟩
      have := hL.two r h
      rcases hb with hb | hb
      · omega
      · simp [Utf8.valid] at hb; omega
    · rw [if_neg hb, hs]
      have hv : Utf8.valid r = true := by
        cases hh : Utf8.valid r with
        | true => rfl
        | false => exact absurd (.inr hh) hb
      have hc : ¬ r.toNat < 128 := by omega
      have hc3 : r.toNat < 65536 := by omega
      by_cases h : r.toNat < 2048
      · have he : (Utf8.encode r).data.toList = [UInt8.ofNat (192 + r.toNat / 64), UInt8.ofNat (128 + r.toNat % 64)] := by
          unfold Utf8.encode
          simp only [hv, if_true, hc, if_false, h]
        rw [he, index_nonneg (by simp)]
        exact ⟨fun ⟨j, _, hj⟩ => mem_of_occ r (by omega) (by omega) L hL.two ⟨j, hj⟩, fun hm => occ_of_mem r L hm⟩
      · have he : (Utf8.encode r).data.toList = [UInt8.ofNat (224 + r.toNat / 4096), UInt8.ofNat (128 + r.toNat / 64 % 64), UInt8.ofNat (128 + r.toNat % 64)] := by
          unfold Utf8.encode
          simp only [hv, if_true, hc, if_false, h, hc3]
        rw [he, index_nonneg (by simp)]
        refine ⟨fun ⟨j, _, hj⟩ => ?_, fun hm => by have := hL.two r hm; omega⟩
        rw [no_high r _ _ _ (by simp; omega) L hL.two j] at hj
        cases hj
theorem latin_letters : Letters latinL := ⟨by decide +kernel, by decide +kernel, by decide +kernel, by decide +kernel⟩
theorem greek_letters : Letters greekL := ⟨by decide +kernel, by decide +kernel, by decide +kernel, by decide +kernel⟩
theorem cyrillic_letters : Letters cyrillicL := ⟨by decide +kernel, by decide +kernel, by decide +kernel, by decide +kernel⟩
end Go.Proofs.YtmmakaheagjpkaaDoor.Rep
