/- Two encoded strings together: what they decode to, and their script. -/
import Derived.Test.YtmmakaheagjpkaaDoorTexts
namespace Go.Proofs.YtmmakaheagjpkaaDoor.Rep
open Go.RowKit Go.Proofs.YtmmakaheagjpkaaDoorW.PrintWords Go.Lib Rune Go.Proofs.YtmmakaheagjpkaaDoor.Pr
set_option linter.unusedVariables false
set_option linter.unusedSimpArgs false

theorem by_append_left (s t : ByteArray) (i : Nat) (h : i < s.size) : by_ (s ++ t) i = by_ s i := by
  have h2 : i < (s ++ t).size := by rw [ByteArray.size_append]; omega
  have e := at_list (s ++ t) i h2
  have e2 : (s ++ t).data.toList[i]? = s.data.toList[i]? := by
    rw [ByteArray.data_append, Array.toList_append, List.getElem?_append_left (by rw [size_list]; exact h)]
  rw [e2, at_list s i h] at e
  unfold by_
  rw [show (s ++ t).get! i = (s ++ t)[i]'h2 from get_bytes _ _ rfl _ _ (at_list _ i h2), show s.get! i = s[i]'h from get_bytes _ _ rfl _ _ (at_list _ i h), Option.some.inj e]
theorem by_append_right (s t : ByteArray) (j : Nat) (h : j < t.size) : by_ (s ++ t) (s.size + j) = by_ t j := by
  have h2 : s.size + j < (s ++ t).size := by rw [ByteArray.size_append]; omega
  have e := at_list (s ++ t) (s.size + j) h2
  have e2 : (s ++ t).data.toList[s.size + j]? = t.data.toList[j]? := by
    rw [ByteArray.data_append, Array.toList_append, List.getElem?_append_right (by rw [size_list]; omega), size_list, Nat.add_sub_cancel_left]
  rw [e2, at_list t j h] at e
  unfold by_
  rw [show (s ++ t).get! (s.size + j) = (s ++ t)[s.size + j]'h2 from get_bytes _ _ rfl _ _ (at_list _ _ h2), show t.get! j = t[j]'h from get_bytes _ _ rfl _ _ (at_list _ j h), Option.some.inj e]
theorem atS_left (s t : ByteArray) (i : Nat) (h : i < s.size) (hn : (atS s i).2 ≠ 0) : atS (s ++ t) i = atS s i := by
  have hz : (s ++ t).size = s.size + t.size := ByteArray.size_append
  have e0 := by_append_left s t i h
  unfold atS at hn ⊢
  rw [e0]
  by_cases c0 : by_ s i < 128
  · rw [if_pos c0, if_pos c0]
  · rw [if_neg c0, if_neg c0]
    rw [if_neg c0] at hn
    by_cases c1 : 194 ≤ by_ s i ∧ by_ s i < 224 ∧ i + 1 < s.size ∧ by_ s (i + 1) / 64 = 2
    · have e1 := by_append_left s t (i + 1) c1.2.2.1
      rw [if_pos c1, if_pos (by rw [e1, hz]; omega), e1]
    · rw [if_neg c1] at hn
      by_cases c2 : 224 ≤ by_ s i ∧ by_ s i < 240 ∧ i + 2 < s.size ∧ by_ s (i + 1) / 64 = 2 ∧ by_ s (i + 2) / 64 = 2 ∧ 2048 ≤ ((by_ s i : Int) - 224) * 4096 + ((by_ s (i + 1) : Int) - 128) * 64 + ((by_ s (i + 2) : Int) - 128)
      · have e1 := by_append_left s t (i + 1) (by omega)
        have e2 := by_append_left s t (i + 2) (by omega)
        rw [if_neg c1, if_pos c2, if_neg (by omega), e1, e2, if_pos (by rw [hz]; exact ⟨c2.1, c2.2.1, by omega, c2.2.2.2⟩)]
      · rw [if_neg c2] at hn
        exact absurd rfl hn
theorem atS_right (s t : ByteArray) (j : Nat) (h : j < t.size) : atS (s ++ t) (s.size + j) = atS t j := by
  have hz : (s ++ t).size = s.size + t.size := ByteArray.size_append
  rw [atS_atN, atS_atN, hz, show s.size + t.size - (s.size + j) = t.size - j from by omega, by_append_right s t j h]
  unfold atN
  by_cases h1 : j + 1 < t.size
  · rw [Nat.add_assoc, by_append_right s t (j + 1) h1]
    by_cases h2 : j + 2 < t.size
    · rw [Nat.add_assoc, by_append_right s t (j + 2) h2]
    · have e2 : ¬ 2 < t.size - j := by omega
      simp only [e2, false_and, and_false, if_false]
  · have e1 : ¬ 1 < t.size - j := by omega
    have e2 : ¬ 2 < t.size - j := by omega
    simp only [e1, e2, false_and, and_false, if_false]

/-- More rounds than are needed change nothing. -/
theorem decGo_more (s : ByteArray) : ∀ (f g i : Nat) (acc : List Int), s.size ≤ i + f → f ≤ g → decGo s g i acc = decGo s f i acc
  | 0, g, i, acc, h, _ => by
    cases g with
    | zero => rfl
    | succ g => simp only [decGo]; rw [if_neg (by omega), if_neg (by omega)]
  | f + 1, g, i, acc, h, hg => by
    obtain ⟨g, rfl⟩ : ∃ m, g = m + 1 := ⟨g - 1, by omega⟩
    simp only [decGo]
    split
    · rename_i hi
      split
      · rfl
      · rename_i hc
        rcases atS_width s i hi with hw | hw
        · exact absurd (.inl hw) hc
        · exact decGo_more s f g _ _ (by omega) (by omega)
    · rfl
/-- What has been read stays ahead. -/
theorem decGo_acc (s : ByteArray) : ∀ (f i : Nat) (acc : List Int), decGo s f i acc = (decGo s f i []).map (acc ++ ·)
  | 0, i, acc => by
    unfold decGo
    split
    · rfl
    · simp
  | f + 1, i, acc => by
    simp only [decGo]
    split
    · split
      · rfl
      · rw [decGo_acc s f _ (acc ++ _), decGo_acc s f _ ([] ++ _), Option.map_map]
        congr 1
        funext x
        simp
    · simp
theorem decGo_right (s t : ByteArray) : ∀ (f j : Nat) (acc : List Int), j ≤ t.size → decGo (s ++ t) f (s.size + j) acc = decGo t f j acc
  | 0, j, acc, hj => by
    have hz : (s ++ t).size = s.size + t.size := ByteArray.size_append
    unfold decGo
    rw [hz]
    simp only [show (s.size + j < s.size + t.size) = (j < t.size) from propext ⟨fun h => by omega, fun h => by omega⟩]
  | f + 1, j, acc, hj => by
    have hz : (s ++ t).size = s.size + t.size := ByteArray.size_append
    simp only [decGo]
    rw [hz]
    simp only [show (s.size + j < s.size + t.size) = (j < t.size) from propext ⟨fun h => by omega, fun h => by omega⟩]
    split
    · rename_i hi
      rw [atS_right s t j hi]
      split
      · rfl
      · rename_i hc
        rcases atS_width t j hi with hw | hw
        · exact absurd (.inl hw) hc
        · rw [Nat.add_assoc]; exact decGo_right s t f _ _ hw.2.2.1
    · rfl
theorem decGo_left (s t : ByteArray) : ∀ (f g i : Nat) (acc l : List Int), s.size ≤ i + f → i ≤ s.size → s.size + t.size ≤ i + g → decGo s f i acc = some l → decGo (s ++ t) g i acc = (dec t).map (l ++ ·)
  | 0, g, i, acc, l, h, hi, hg, hd => by
    unfold decGo at hd
    rw [if_neg (by omega)] at hd
    obtain rfl := Option.some.inj hd
    have hi' : i = s.size + 0 := by omega
    rw [hi', decGo_right s t g 0 acc (by omega), decGo_acc, decGo_more t t.size g 0 [] (by omega) (by omega)]
    rfl
  | f + 1, g, i, acc, l, h, hi, hg, hd => by
    by_cases hlt : i < s.size
    · obtain ⟨g, rfl⟩ : ∃ m, g = m + 1 := ⟨g - 1, by omega⟩
      simp only [decGo] at hd ⊢
      rw [if_pos hlt] at hd
      rw [ByteArray.size_append, if_pos (by omega)]
      by_cases hc : (atS s i).2 = 0 ∨ has (atS s i).1 = false
      · rw [if_pos hc] at hd; cases hd
      · rw [if_neg hc] at hd
        have hn : (atS s i).2 ≠ 0 := fun e => hc (.inl e)
        rw [atS_left s t i hlt hn, if_neg hc]
        rcases atS_width s i hlt with hw | hw
        · exact absurd hw hn
        · exact decGo_left s t f g _ _ l (by omega) hw.2.2.1 (by omega) hd
    · simp only [decGo] at hd
      rw [if_neg hlt] at hd
      obtain rfl := Option.some.inj hd
      have hi' : i = s.size + 0 := by omega
      rw [hi', decGo_right s t g 0 acc (by omega), decGo_acc, decGo_more t t.size g 0 [] (by omega) (by omega)]
      rfl
/-- Two strings together, the first one encoded. -/
theorem dec_append (s t : ByteArray) (l : List Int) (h : dec s = some l) : dec (s ++ t) = (dec t).map (l ++ ·) := by
  unfold dec at h
  rw [show dec (s ++ t) = decGo (s ++ t) (s ++ t).size 0 [] from rfl]
  exact decGo_left s t s.size _ 0 [] l (by omega) (by omega) (by rw [ByteArray.size_append]; omega) h

theorem cls_script (c : Int) : (cls c).1 = 0 ∨ (cls c).1 = 1 ∨ (cls c).1 = 2 ∨ (cls c).1 = 3 := by
  unfold cls
  generalize (if 65281 ≤ c ∧ c ≤ 65374 then c - 65248 else c) = d
  unfold cls0
  repeat' split
  all_goals simp
theorem scr_append (a b : List Int) : ∀ o, o ≠ 4 → scr (a ++ b) o = if scr a o = 4 then 4 else scr b (scr a o) := by
  induction a with
  | nil =>
    intro o ho
    show scr b o = if o = 4 then 4 else scr b o
    rw [if_neg ho]
  | cons c a ih =>
    intro o ho
    have := cls_script c
    by_cases h1 : (cls c).1 = 0 ∨ (cls c).1 = o
    · have e1 : scr (c :: a) o = scr a o := by simp only [scr]; rw [if_pos h1]
      have e2 : scr (c :: a ++ b) o = scr (a ++ b) o := by simp only [List.cons_append, scr]; rw [if_pos h1]
      rw [e1, e2]; exact ih o ho
    · by_cases h2 : o = 0
      · have e1 : scr (c :: a) o = scr a (cls c).1 := by simp only [scr]; rw [if_neg h1, if_pos h2]
        have e2 : scr (c :: a ++ b) o = scr (a ++ b) (cls c).1 := by simp only [List.cons_append, scr]; rw [if_neg h1, if_pos h2]
        rw [e1, e2]; exact ih _ (by omega)
      · have e1 : scr (c :: a) o = 4 := by simp only [scr]; rw [if_neg h1, if_neg h2]
        have e2 : scr (c :: a ++ b) o = 4 := by simp only [List.cons_append, scr]; rw [if_neg h1, if_neg h2]
        rw [e1, e2, if_pos rfl]
theorem scr_from (b : List Int) : ∀ o, o ≠ 4 → scr b o = if o = 0 then scr b 0 else if scr b 0 = 0 ∨ scr b 0 = o then o else 4 := by
  induction b with
  | nil => intro o ho; simp only [scr]; split <;> simp_all
  | cons c b ih =>
    intro o ho
    have hc := cls_script c
    simp only [scr]
    have i1 := ih o ho
    have i2 := ih (cls c).1 (by omega)
    generalize (cls c).1 = d at *
    generalize scr b 0 = z at *
    clear ih
    grind
/-- The script of two strings together. -/
theorem script_append (s t : ByteArray) (a b : List Int) (ha : dec s = some a) (hb : dec t = some b) : script (s ++ t) = if script s = 0 then script t else if script t = 0 ∨ script s = script t then script s else 4 := by
  have h := dec_append s t a ha
  unfold script decL
  rw [h, ha, hb]
  simp only [Option.map_some, Option.getD_some]
  rw [scr_append a b 0 (by omega)]
  by_cases h4 : scr a 0 = 4
  · rw [if_pos h4, h4, if_neg (by omega)]; split <;> rfl
  · rw [if_neg h4, scr_from b _ h4]
    grind
end Go.Proofs.YtmmakaheagjpkaaDoor.Rep
