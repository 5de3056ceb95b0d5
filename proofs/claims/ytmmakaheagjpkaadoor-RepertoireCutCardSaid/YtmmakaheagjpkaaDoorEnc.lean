/- Encoding: what the functions answer, and that it inverts decoding. -/
import Derived.Test.YtmmakaheagjpkaaDoorConcat
import Derived.Test.YtmmakaheagjpkaaDoorPr18
namespace Go.Proofs.YtmmakaheagjpkaaDoor.Rep
open Go.RowKit Go.Proofs.YtmmakaheagjpkaaDoorW.PrintWords Go.Lib Rune Go.Proofs.YtmmakaheagjpkaaDoor.Pr
set_option linter.unusedVariables false
set_option linter.unusedSimpArgs false

def encL (l : List Int) : List UInt8 := l.flatMap Lib.encodeRune
def encB (l : List Int) : ByteArray := ⟨(encL l).toArray⟩
theorem encL_append (a b : List Int) : encL (a ++ b) = encL a ++ encL b := by simp [encL]
theorem encL_one (c : Int) : encL [c] = Lib.encodeRune c := by simp [encL]
theorem encB_append (a b : List Int) : encB (a ++ b) = encB a ++ encB b := by
  unfold encB
  rw [encL_append]
  apply ByteArray.ext
  simp
theorem encB_nil : encB [] = (⟨#[]⟩ : ByteArray) := rfl
theorem encB_size (l : List Int) : (encB l).size = (encL l).length := by simp [encB, ByteArray.size]
theorem encL_len (l : List Int) : (encL l).length ≤ 4 * l.length := by
  induction l with
  | nil => simp [encL]
  | cons c t ih =>
    have h4 := Lib.runeCells_le c
    rw [Lib.runeCells_length] at h4
    rw [show encL (c :: t) = Lib.encodeRune c ++ encL t from by simp [encL], List.length_append, List.length_cons]
    omega
theorem go_eq : ∀ (l : List Int) (acc : List UInt8), SmallL l → repertoire_Encode.go l acc = some (if l.all has = true then (⟨(acc ++ encL l).toArray⟩, true) else (⟨#[]⟩, false))
  | [], acc, _ => by simp [repertoire_Encode.go, encL]
  | c :: t, acc, h => by
    have hc := h c (by simp)
    have hh' := has_eq 0 c hc.1 hc.2
    simp only [repertoire_Encode.go]
    rw [show (8 : Nat) = 0 + 8 from rfl, hh']
    simp only [Option.bind_some]
    by_cases hh : has c = true
    · have hr := has_range c hh
      rw [if_pos hh, if_pos (by omega), go_eq t _ (fun x hx => h x (by simp [hx]))]
      simp [hh, encL]
    · rw [if_neg hh]; simp [hh]
theorem enc_eq (l : List Int) (h : SmallL l) (hl : l.length < 17592186044416) : repertoire_Encode.f l = some (if l.all has = true then (encB l, true) else (⟨#[]⟩, false)) := by
  unfold repertoire_Encode.f
  rw [if_pos hl, go_eq l [] h]
  rfl
theorem bytes_eq (c : Int) (h : has c = true) : bookplateref04_bytes.f c = some (encB [c]) := by
  have hr := has_range c h
  unfold bookplateref04_bytes.f encB
  rw [encL_one]
  unfold Lib.encodeRune
  have fin : ∀ (xs ys : List Int), xs = ys → some (strOfNums xs) = some (⟨(ys.map fun x => x.toNat.toUInt8).toArray⟩ : ByteArray) := by
    rintro xs _ rfl; rfl
  by_cases h1 : c < 128
  · rw [if_pos h1, Lib.encodeRuneZ_one (by omega) (by omega)]
    exact fin _ _ (by rw [Int.emod_eq_of_lt (by omega) (by omega)])
  · rw [if_neg h1]
    by_cases h2 : c < 2048
    · rw [if_pos h2, Lib.encodeRuneZ_two (by omega) (by omega)]
      refine fin _ _ ?_
      rw [Int.tdiv_eq_ediv_of_nonneg (show 0 ≤ c by omega), Int.tmod_eq_emod_of_nonneg (show 0 ≤ c by omega)]
      rw [show wrap64 (c / 64) = c / 64 by unfold wrap64; omega, show wrap64 (192 + c / 64) % 256 = 192 + c / 64 by unfold wrap64; omega, show wrap64 (128 + c % 64) % 256 = 128 + c % 64 by unfold wrap64; omega]
    · rw [if_neg h2, Lib.encodeRuneZ_three (by omega)]
      refine fin _ _ ?_
      rw [Int.tdiv_eq_ediv_of_nonneg (show 0 ≤ c by omega), Int.tdiv_eq_ediv_of_nonneg (show 0 ≤ c by omega), Int.tmod_eq_emod_of_nonneg (show 0 ≤ c by omega), show wrap64 (c / 64) = c / 64 by unfold wrap64; omega, Int.tmod_eq_emod_of_nonneg (show 0 ≤ c / 64 by omega)]
      rw [show wrap64 (c / 4096) = c / 4096 by unfold wrap64; omega, show wrap64 (224 + c / 4096) % 256 = 224 + c / 4096 by unfold wrap64; omega, show wrap64 (128 + c / 64 % 64) % 256 = 128 + c / 64 % 64 by unfold wrap64; omega, show wrap64 (128 + c % 64) % 256 = 128 + c % 64 by unfold wrap64; omega]
theorem refhas_eq (k : Nat) (hk : 320 ≤ k) (c : Int) (hc : -9223372036854775808 ≤ c) (hc2 : c ≤ 9223372036854775807) : bookplateref04_Has.f k c = some (has c) := by
  obtain ⟨m, rfl⟩ : ∃ m, k = m + 320 := ⟨k - 320, by omega⟩
  unfold bookplateref04_Has.f
  rw [refclass_eq m c hc hc2]
  rfl
theorem refenc_go (l : List Int) (hs : SmallL l) (hl : l.length < 17592186044416) : ∀ (d i k : Nat) (acc : ByteArray), i + d = l.length → d + 400 ≤ k → acc.size ≤ 4 * i → bookplateref04_Encode.l0 k l acc (i : Int) = some (if (l.drop i).all has = true then (acc ++ encB (l.drop i), true) else (⟨#[]⟩, false))
  | 0, i, k, acc, h1, h2, h3 => by
    obtain ⟨m, rfl⟩ : ∃ m, k = m + 1 := ⟨k - 1, by omega⟩
    simp only [bookplateref04_Encode.l0]
    rw [if_neg (by omega), List.drop_of_length_le (by omega)]
    simp [encB, encL]
    apply ByteArray.ext; simp
  | d + 1, i, k, acc, h1, h2, h3 => by
    obtain ⟨m, rfl⟩ : ∃ m, k = m + 1 := ⟨k - 1, by omega⟩
    have hlt : i < l.length := by omega
    have hc := hs l[i] (List.getElem_mem _)
    simp only [bookplateref04_Encode.l0]
    rw [if_pos (by omega), if_pos (by omega), rd_get l i hlt, refhas_eq m (by omega) _ hc.1 hc.2]
    simp only [Option.bind_some]
    rw [List.drop_eq_getElem_cons hlt]
    by_cases hh : has l[i] = true
    · rw [if_pos hh, bytes_eq _ hh]
      simp only [Option.bind_some]
      have hz : (encB [l[i]]).size ≤ 4 := by rw [encB_size]; exact encL_len [l[i]]
      rw [if_pos (by omega), show wrap64 ((i : Int) + 1) = ((i + 1 : Nat) : Int) by unfold wrap64; omega, refenc_go l hs hl d (i + 1) m _ (by omega) (by omega) (by rw [ByteArray.size_append]; omega)]
      rw [show l[i] :: l.drop (i + 1) = [l[i]] ++ l.drop (i + 1) from rfl, encB_append, List.all_append, ByteArray.append_assoc]
      simp [hh]
    · rw [if_neg hh, List.all_cons, Bool.eq_false_iff.mpr hh]; rfl
theorem refenc_eq (l : List Int) (hs : SmallL l) (hl : l.length < 17592186044416) (k : Nat) (hk : l.length + 400 ≤ k) : bookplateref04_Encode.f k l = some (if l.all has = true then (encB l, true) else (⟨#[]⟩, false)) := by
  unfold bookplateref04_Encode.f
  have := refenc_go l hs hl l.length 0 k (⟨#[]⟩ : ByteArray) (by omega) (by omega) (by simp [ByteArray.size])
  rw [List.drop_zero, show (⟨#[]⟩ : ByteArray) ++ encB l = encB l by apply ByteArray.ext; simp] at this
  exact this

theorem len_data (s : ByteArray) : s.data.toList.length = s.size := Array.length_toList
/-- The bytes at a place. -/
theorem get_data (s : ByteArray) (i : Nat) (h : i < s.size) : s.data.toList[i]'(by rw [len_data]; exact h) = s.get! i := by
  simp only [ByteArray.get!, Array.getElem_toList]
  exact (getElem!_pos s.data i h).symm
theorem byte_of {z : Int} {s : ByteArray} {i : Nat} (h : z = (by_ s i : Int)) : z.toNat.toUInt8 = s.get! i := by
  subst h
  rw [Int.toNat_natCast]
  unfold by_
  exact UInt8.ofNat_toNat
theorem take_one (s : ByteArray) (i : Nat) (h : i < s.size) (t : Nat) : (s.data.toList.drop i).take (t + 1) = s.get! i :: (s.data.toList.drop (i + 1)).take t := by
  rw [List.drop_eq_getElem_cons (by rw [len_data]; exact h), List.take_succ_cons, get_data s i h]
theorem take1 (s : ByteArray) (i : Nat) (h : i < s.size) : (s.data.toList.drop i).take 1 = [s.get! i] := by
  rw [take_one s i h 0, List.take_zero]
theorem take2 (s : ByteArray) (i : Nat) (h : i + 1 < s.size) : (s.data.toList.drop i).take 2 = [s.get! i, s.get! (i + 1)] := by
  rw [take_one s i (by omega) 1, take1 s (i + 1) h]
theorem take3 (s : ByteArray) (i : Nat) (h : i + 2 < s.size) : (s.data.toList.drop i).take 3 = [s.get! i, s.get! (i + 1), s.get! (i + 2)] := by
  rw [take_one s i (by omega) 2, take2 s (i + 1) h]
theorem atS_enc (s : ByteArray) (i : Nat) (h : i < s.size) (hn : (atS s i).2 ≠ 0) (hh : has (atS s i).1 = true) : (s.data.toList.drop i).take (atS s i).2.toNat = Lib.encodeRune (atS s i).1 := by
  have hr := has_range _ hh
  have b0 := by_lt s i
  have b1 := by_lt s (i + 1)
  have b2 := by_lt s (i + 2)
  revert hn hr
  unfold atS
  by_cases c1 : by_ s i < 128
  · simp only [if_pos c1]
    intro _ hr
    rw [show (1 : Int).toNat = 1 from rfl, take1 s i h, Lib.encodeRune, Lib.encodeRuneZ_one (by omega) (by omega)]
    simp only [List.map_cons, List.map_nil]
    rw [byte_of rfl]
  · by_cases c2 : 194 ≤ by_ s i ∧ by_ s i < 224 ∧ i + 1 < s.size ∧ by_ s (i + 1) / 64 = 2
    · simp only [if_neg c1, if_pos c2]
      intro _ hr
      obtain ⟨d1, d2, d3, d4⟩ := c2
      rw [show (2 : Int).toNat = 2 from rfl, take2 s i d3, Lib.encodeRune, Lib.encodeRuneZ_two (by omega) (by omega)]
      simp only [List.map_cons, List.map_nil]
      rw [byte_of (s := s) (i := i) (by omega), byte_of (s := s) (i := i + 1) (by omega)]
    · by_cases c3 : 224 ≤ by_ s i ∧ by_ s i < 240 ∧ i + 2 < s.size ∧ by_ s (i + 1) / 64 = 2 ∧ by_ s (i + 2) / 64 = 2 ∧ 2048 ≤ ((by_ s i : Int) - 224) * 4096 + ((by_ s (i + 1) : Int) - 128) * 64 + ((by_ s (i + 2) : Int) - 128)
      · simp only [if_neg c1, if_neg c2, if_pos c3]
        intro _ hr
        obtain ⟨d1, d2, d3, d4, d5, d6⟩ := c3
        rw [show (3 : Int).toNat = 3 from rfl, take3 s i d3, Lib.encodeRune, Lib.encodeRuneZ_three (by omega)]
        simp only [List.map_cons, List.map_nil]
        rw [byte_of (s := s) (i := i) (by omega), byte_of (s := s) (i := i + 1) (by omega), byte_of (s := s) (i := i + 2) (by omega)]
      · simp only [if_neg c1, if_neg c2, if_neg c3]
        intro hn
        exact absurd rfl hn
theorem decGo_enc (s : ByteArray) : ∀ (f i : Nat) (acc l : List Int), s.size ≤ i + f → i ≤ s.size → acc.all has = true → s.data.toList.take i = encL acc → decGo s f i acc = some l → l.all has = true ∧ encL l = s.data.toList
  | 0, i, acc, l, h, hi, ha, he, hd => by
    unfold decGo at hd
    rw [if_neg (by omega)] at hd
    obtain rfl := Option.some.inj hd
    rw [List.take_of_length_le (by rw [len_data]; omega)] at he
    exact ⟨ha, he.symm⟩
  | f + 1, i, acc, l, h, hi, ha, he, hd => by
    simp only [decGo] at hd
    by_cases hlt : i < s.size
    · rw [if_pos hlt] at hd
      by_cases hc : (atS s i).2 = 0 ∨ has (atS s i).1 = false
      · rw [if_pos hc] at hd; cases hd
      · rw [if_neg hc] at hd
        have hn : (atS s i).2 ≠ 0 := fun e => hc (.inl e)
        have hh : has (atS s i).1 = true := by
          cases h' : has (atS s i).1 with
          | true => rfl
          | false => exact absurd (.inr h') hc
        rcases atS_width s i hlt with hw | hw
        · exact absurd hw hn
        · refine decGo_enc s f _ _ l (by omega) hw.2.2.1 (by simp [ha, hh]) ?_ hd
          rw [List.take_add, he, atS_enc s i hlt hn hh, encL_append, encL_one]
    · rw [if_neg hlt] at hd
      obtain rfl := Option.some.inj hd
      rw [List.take_of_length_le (by rw [len_data]; omega)] at he
      exact ⟨ha, he.symm⟩
/-- What is decoded is encoded to the same bytes. -/
theorem enc_dec (s : ByteArray) (l : List Int) (h : dec s = some l) : l.all has = true ∧ encB l = s := by
  have h' := decGo_enc s s.size 0 [] l (by omega) (by omega) rfl (by simp [encL]) h
  refine ⟨h'.1, ?_⟩
  unfold encB
  rw [h'.2]
theorem dec_step_one (s : ByteArray) (c : Int) (h0 : 0 < s.size) (h : atS s 0 = (c, (s.size : Int))) (hh : has c = true) : dec s = some [c] := by
  obtain ⟨n, hn⟩ : ∃ n, s.size = n + 1 := ⟨s.size - 1, by omega⟩
  unfold dec
  rw [hn]
  simp only [decGo]
  rw [if_pos h0, h]
  simp only []
  rw [if_neg (by rintro (e | e); omega; rw [hh] at e; cases e), Nat.zero_add, Int.toNat_natCast]
  cases n with
  | zero => simp [decGo]
  | succ n => simp [decGo]
theorem by_cons (L : List UInt8) (i : Nat) : by_ ⟨L.toArray⟩ i = (L[i]?.getD default).toNat := by
  unfold by_ ByteArray.get!
  simp only [getElem!_def, List.getElem?_toArray]
  cases L[i]? <;> rfl
theorem byte_nat (z : Int) (h0 : 0 ≤ z) (h1 : z < 256) : ((z.toNat.toUInt8).toNat : Int) = z := by
  rw [show z.toNat.toUInt8.toNat = z.toNat % 256 from rfl]
  omega
theorem dec_one (c : Int) (hh : has c = true) : dec (encB [c]) = some [c] := by
  have hr := has_range c hh
  have hz := encB_size [c]
  rw [encL_one] at hz
  by_cases c1 : c ≤ 127
  · have e : Lib.encodeRune c = [c.toNat.toUInt8] := by simp [Lib.encodeRune, Lib.encodeRuneZ_one (show 0 ≤ c by omega) c1]
    rw [e] at hz
    have k0 := byte_nat c (by omega) (by omega)
    have g0 : by_ (encB [c]) 0 = (c.toNat.toUInt8).toNat := by unfold encB; rw [encL_one, e, by_cons]; rfl
    refine dec_step_one _ c (by rw [hz]; simp) ?_ hh
    unfold atS
    rw [g0, hz, if_pos (by omega), k0]
    rfl
  · by_cases c2 : c ≤ 2047
    · have e : Lib.encodeRune c = [(192 + c / 64).toNat.toUInt8, (128 + c % 64).toNat.toUInt8] := by simp [Lib.encodeRune, Lib.encodeRuneZ_two (show 128 ≤ c by omega) c2]
      rw [e] at hz
      have k0 := byte_nat (192 + c / 64) (by omega) (by omega)
      have k1 := byte_nat (128 + c % 64) (by omega) (by omega)
      have g0 : by_ (encB [c]) 0 = ((192 + c / 64).toNat.toUInt8).toNat := by unfold encB; rw [encL_one, e, by_cons]; rfl
      have g1 : by_ (encB [c]) (0 + 1) = ((128 + c % 64).toNat.toUInt8).toNat := by unfold encB; rw [encL_one, e, by_cons]; rfl
      refine dec_step_one _ c (by rw [hz]; simp) ?_ hh
      unfold atS
      rw [g0, g1, hz, if_neg (by omega), if_pos (by simp only [List.length_cons, List.length_nil]; omega), k0, k1]
      simp only [List.length_cons, List.length_nil]
      congr 1
      omega
    · have e : Lib.encodeRune c = [(224 + c / 4096).toNat.toUInt8, (128 + c / 64 % 64).toNat.toUInt8, (128 + c % 64).toNat.toUInt8] := by simp [Lib.encodeRune, Lib.encodeRuneZ_three (show (2048 ≤ c ∧ c < 55296) ∨ (57343 < c ∧ c ≤ 65535) by omega)]
      rw [e] at hz
      have k0 := byte_nat (224 + c / 4096) (by omega) (by omega)
      have k1 := byte_nat (128 + c / 64 % 64) (by omega) (by omega)
      have k2 := byte_nat (128 + c % 64) (by omega) (by omega)
      have g0 : by_ (encB [c]) 0 = ((224 + c / 4096).toNat.toUInt8).toNat := by unfold encB; rw [encL_one, e, by_cons]; rfl
      have g1 : by_ (encB [c]) (0 + 1) = ((128 + c / 64 % 64).toNat.toUInt8).toNat := by unfold encB; rw [encL_one, e, by_cons]; rfl
      have g2 : by_ (encB [c]) (0 + 2) = ((128 + c % 64).toNat.toUInt8).toNat := by unfold encB; rw [encL_one, e, by_cons]; rfl
      refine dec_step_one _ c (by rw [hz]; simp) ?_ hh
      unfold atS
      rw [g0, g1, g2, hz, if_neg (by omega), if_neg (by omega), if_pos (by simp only [List.length_cons, List.length_nil]; omega), k0, k1, k2]
      simp only [List.length_cons, List.length_nil]
      congr 1
      omega
theorem dec_nil : dec (encB []) = some [] := by
  unfold dec
  rw [show (encB []).size = 0 from rfl]
  simp only [decGo]
  rw [if_neg (by rw [show (encB []).size = 0 from rfl]; omega)]
/-- What is encoded is decoded to the same numbers. -/
theorem dec_enc (l : List Int) (h : l.all has = true) : dec (encB l) = some l := by
  induction l with
  | nil => exact dec_nil
  | cons c t ih =>
    simp only [List.all_cons, Bool.and_eq_true] at h
    rw [show c :: t = [c] ++ t from rfl, encB_append, dec_append _ _ _ (dec_one c h.1), ih h.2]
    rfl
end Go.Proofs.YtmmakaheagjpkaaDoor.Rep
