/- What the functions of package repertoire, and of its reference, answer: counts, texts, scripts, equal lists; the examples of the document hold. -/
import Derived.Test.YtmmakaheagjpkaaDoorDecode
namespace Go.Proofs.YtmmakaheagjpkaaDoor.Rep
open Go.RowKit Go.Proofs.YtmmakaheagjpkaaDoorW.PrintWords Go.Lib Rune Go.Proofs.YtmmakaheagjpkaaDoor.Pr
set_option linter.unusedVariables false
set_option linter.unusedSimpArgs false

def decL (s : ByteArray) : List Int := (dec s).getD []
theorem out_dec (s : ByteArray) : out (dec s) = (decL s, (dec s).isSome) := by
  unfold decL
  cases dec s <;> rfl
theorem count_eq (s : ByteArray) (hs : s.size < 17592186044416) (k : Nat) (hk : s.size + 20 ≤ k) : repertoire_Count.f k s = some ((decL s).length : Int) := by
  unfold repertoire_Count.f
  rw [dec_eq s hs k hk, out_dec]
  rfl

/-- A text. -/
def vText (s : ByteArray) : Bool := decide (1 ≤ s.size ∧ s.size ≤ 400 ∧ by_ s 0 ≠ 32 ∧ by_ s (s.size - 1) ≠ 32) && (dec s).isSome

theorem trim_same (l : List UInt8) (c : UInt8) (h : l ≠ []) : trimB l c = l ↔ l.head? ≠ some c ∧ l.getLast? ≠ some c := by
  have hr : ∀ m : List UInt8, m.dropWhile (· == c) = m ↔ m.head? ≠ some c := by
    intro m
    cases m with
    | nil => simp
    | cons x m =>
      by_cases hx : x = c
      · subst hx
        simp only [List.dropWhile_cons, beq_self_eq_true, if_true, List.head?_cons]
        constructor
        · intro e
          have := congrArg List.length e
          have h2 := (List.dropWhile_suffix (l := m) (· == x)).length_le
          simp at this
          omega
        · intro e; exact absurd rfl e
      · simp [List.dropWhile_cons, hx]
  have hlen : ∀ m : List UInt8, (m.dropWhile (· == c)).length ≤ m.length := fun m => (List.dropWhile_suffix _).length_le
  unfold trimB trimLeftB trimRightB
  constructor
  · intro e
    have l1 := hlen l.reverse
    have l2 := hlen (l.reverse.dropWhile (· == c)).reverse
    rw [e] at l2
    simp only [List.length_reverse] at l1 l2
    have e1 : l.reverse.dropWhile (· == c) = l.reverse := by
      have hsuf := List.dropWhile_suffix (l := l.reverse) (· == c)
      exact hsuf.eq_of_length (by simp; omega)
    rw [e1, List.reverse_reverse] at e
    refine ⟨(hr l).1 e, ?_⟩
    have := (hr l.reverse).1 e1
    rwa [List.head?_reverse] at this
  · rintro ⟨h1, h2⟩
    have e1 : l.reverse.dropWhile (· == c) = l.reverse := (hr l.reverse).2 (by rwa [List.head?_reverse])
    rw [e1, List.reverse_reverse]
    exact (hr l).2 h1

theorem by_list (s : ByteArray) (i : Nat) (h : i < s.size) (c : UInt8) : s.data.toList[i]? = some c ↔ by_ s i = c.toNat := by
  rw [at_list s i h]
  unfold by_
  have : s.get! i = s[i]'h := by
    simp [ByteArray.get!, getElem!_pos, h]
    rfl
  rw [this]
  exact ⟨fun e => by rw [Option.some.inj e], fun e => by rw [UInt8.toNat_inj.1 e]⟩

theorem valid_eq (s : ByteArray) (hs : s.size < 17592186044416) (k : Nat) (hk : s.size + 20 ≤ k) : repertoire_Valid.f k s = some (vText s) := by
  unfold repertoire_Valid.f
  rw [dec_eq s hs k hk, out_dec]
  simp only [Option.bind_some]
  have hl := size_list s
  cases hd : (dec s).isSome with
  | false => simp [vText, hd]
  | true =>
    rw [if_pos rfl, toList_data]
    by_cases h0 : s.data.toList = []
    · rw [if_pos h0]
      rw [h0] at hl
      simp only [List.length_nil] at hl
      unfold vText
      rw [decide_eq_false (by omega)]; rfl
    · rw [if_neg h0]
      have hpos : 0 < s.size := by
        rcases Nat.eq_zero_or_pos s.size with h | h
        · exact absurd (List.eq_nil_of_length_eq_zero (by rw [hl, h])) h0
        · exact h
      by_cases h4 : s.size ≤ 400
      · rw [if_pos (by omega)]
        unfold strings_Trim.f
        rw [if_pos ⟨rfl, by omega⟩]
        simp only [Option.bind_some, toList_data]
        congr 1
        unfold vText
        rw [hd, Bool.and_true, Bool.eq_iff_iff, beq_iff_eq, decide_eq_true_eq]
        rw [trim_same _ _ h0]
        have g0 := by_list s 0 hpos 32
        have g1 := by_list s (s.size - 1) (by omega) 32
        rw [List.head?_eq_getElem?, List.getLast?_eq_getElem?, hl]
        have e32 : (32 : UInt8).toNat = 32 := rfl
        rw [e32] at g0 g1
        rw [ne_eq, g0, ne_eq, g1]
        exact ⟨fun h => ⟨hpos, h4, h.1, h.2⟩, fun h => ⟨h.2.2.1, h.2.2.2⟩⟩
      · rw [if_neg (by omega)]
        unfold vText
        rw [decide_eq_false (by omega)]; rfl
theorem refvalid_eq (s : ByteArray) (hs : s.size < 17592186044416) (k : Nat) (hk : s.size + 400 ≤ k) : bookplateref04_Valid.f k s = some (vText s) := by
  unfold bookplateref04_Valid.f vText
  by_cases h0 : s.size < 1
  · rw [if_pos (by omega), decide_eq_false (by omega)]; rfl
  · rw [if_neg (by omega)]
    by_cases h4 : 400 < s.size
    · rw [if_pos (by omega), decide_eq_false (by omega)]; rfl
    · have hw : wrap64 ((s.size : Int) - 1) = ((s.size - 1 : Nat) : Int) := by unfold wrap64; omega
      have hb0 : bt s 0 = (by_ s 0 : Int) := bt_by s 0 (by omega)
      rw [if_neg (by omega), if_pos (by omega), hw, hb0, bt_by s (s.size - 1) (by omega)]
      by_cases a : by_ s 0 = 32
      · rw [if_pos (by omega), decide_eq_false (by omega)]; rfl
      · rw [if_neg (by omega), if_pos (by omega), if_pos (by omega)]
        by_cases b : by_ s (s.size - 1) = 32
        · rw [if_pos (by omega), decide_eq_false (by omega)]; rfl
        · rw [if_neg (by omega), decide_eq_true (by omega), refdec_eq s hs k hk, out_dec]
          rfl

/-- The script of a list of characters. -/
def scr : List Int → Int → Int
  | [], o => o
  | c :: t, o => if (cls c).1 = 0 ∨ (cls c).1 = o then scr t o else if o = 0 then scr t (cls c).1 else 4
def SmallL (l : List Int) : Prop := ∀ c ∈ l, -9223372036854775808 ≤ c ∧ c ≤ 9223372036854775807
theorem rd_get (l : List Int) (i : Nat) (h : i < l.length) : rd l (i : Int) = l[i] := by
  unfold rd
  rw [Int.toNat_natCast, List.getD_eq_getElem?_getD, List.getElem?_eq_getElem h]
  rfl
theorem script_go (l : List Int) (hs : SmallL l) (hlen : l.length < 17592186044416) : ∀ (d i k : Nat) (o : Int), i + d = l.length → 2 * d + 20 ≤ k → repertoire_Script.l0 k o l (l.length : Int) (i : Int) = some (scr (l.drop i) o)
  | 0, i, k, o, h1, h2 => by
    obtain ⟨m, rfl⟩ : ∃ m, k = m + 1 := ⟨k - 1, by omega⟩
    simp only [repertoire_Script.l0]
    rw [if_neg (by omega), List.drop_of_length_le (by omega)]; rfl
  | d + 1, i, k, o, h1, h2 => by
    obtain ⟨m, rfl⟩ : ∃ m, k = m + 2 := ⟨k - 2, by omega⟩
    have hi : i < l.length := by omega
    have hc := hs l[i] (List.getElem_mem hi)
    have ih := fun o' => script_go l hs hlen d (i + 1) m o' (by omega) (by omega)
    have hw : wrap64 ((i : Int) + 1) = ((i + 1 : Nat) : Int) := by unfold wrap64; omega
    rw [repertoire_Script.l0, if_pos (by omega), if_pos (by omega), if_pos (by omega), rd_get l i hi]
    obtain ⟨m', hm'⟩ : ∃ m', m + 1 = m' + 8 := ⟨m - 7, by omega⟩
    rw [hm', class_eq m' _ hc.1 hc.2, ← hm']
    simp only [Option.bind_some, repertoire_Script.j1]
    rw [hw, ih, ih, List.drop_eq_getElem_cons hi]
    simp only [scr]
    grind
theorem refscript_go (l : List Int) (hs : SmallL l) (hlen : l.length < 17592186044416) : ∀ (d i k : Nat) (o : Int), i + d = l.length → 2 * d + 400 ≤ k → bookplateref04_Script.l0 k l o (i : Int) = some (scr (l.drop i) o)
  | 0, i, k, o, h1, h2 => by
    obtain ⟨m, rfl⟩ : ∃ m, k = m + 1 := ⟨k - 1, by omega⟩
    simp only [bookplateref04_Script.l0]
    rw [if_neg (by omega), List.drop_of_length_le (by omega)]; rfl
  | d + 1, i, k, o, h1, h2 => by
    obtain ⟨m, rfl⟩ : ∃ m, k = m + 2 := ⟨k - 2, by omega⟩
    have hi : i < l.length := by omega
    have hc := hs l[i] (List.getElem_mem hi)
    have ih := fun o' => refscript_go l hs hlen d (i + 1) m o' (by omega) (by omega)
    have hw : wrap64 ((i : Int) + 1) = ((i + 1 : Nat) : Int) := by unfold wrap64; omega
    rw [bookplateref04_Script.l0, if_pos (by omega), if_pos (by omega), rd_get l i hi]
    obtain ⟨m', hm'⟩ : ∃ m', m + 1 = m' + 320 := ⟨m - 319, by omega⟩
    rw [hm', refclass_eq m' _ hc.1 hc.2, ← hm']
    simp only [Option.bind_some, bookplateref04_Script.j1]
    rw [hw, ih, ih, List.drop_eq_getElem_cons hi]
    simp only [scr]
    by_cases a : (cls l[i]).1 = 0
    · rw [if_pos a, if_neg (by simp), if_pos a, if_pos (.inl a)]
    · rw [if_neg a]
      by_cases c : o = 0
      · rw [if_pos c, if_neg (by simp), if_neg a, if_neg (by rintro (h | h); exact a h; exact a (h.trans c)), if_pos c]
      · rw [if_neg c]
        by_cases b : (cls l[i]).1 = o
        · rw [if_neg (by simp [b]), if_neg a, if_pos (.inr b), b]
        · rw [if_pos (by simpa using b), if_neg (by rintro (h | h); exact a h; exact b h), if_neg c]

theorem decGo_small (s : ByteArray) : ∀ (f i : Nat) (acc l : List Int), (∀ c ∈ acc, 0 ≤ c ∧ c < 65536) → decGo s f i acc = some l → ∀ c ∈ l, 0 ≤ c ∧ c < 65536
  | 0, i, acc, l, h, hd => by
    unfold decGo at hd
    split at hd
    · cases hd
    · rw [← Option.some.inj hd]; exact h
  | f + 1, i, acc, l, h, hd => by
    unfold decGo at hd
    split at hd
    · rename_i hi
      split at hd
      · cases hd
      · rename_i hc
        refine decGo_small s f _ _ l ?_ hd
        intro c hm
        rcases List.mem_append.1 hm with hm | hm
        · exact h c hm
        · rw [List.mem_singleton.1 hm]
          rcases atS_width s i hi with hw | hw
          · exact absurd (.inl hw) hc
          · exact hw.2.2.2
    · rw [← Option.some.inj hd]; exact h
theorem decL_range (s : ByteArray) : ∀ c ∈ decL s, 0 ≤ c ∧ c < 65536 := by
  unfold decL
  cases hd : dec s with
  | none => intro c hc; simp at hc
  | some l => exact decGo_small s _ _ _ l (by simp) hd
theorem decGo_length (s : ByteArray) : ∀ (f i : Nat) (acc l : List Int), acc.length ≤ i → i ≤ s.size → decGo s f i acc = some l → l.length ≤ s.size
  | 0, i, acc, l, h, hi0, hd => by
    unfold decGo at hd
    split at hd
    · cases hd
    · rw [← Option.some.inj hd]; omega
  | f + 1, i, acc, l, h, hi0, hd => by
    unfold decGo at hd
    split at hd
    · rename_i hi
      split at hd
      · cases hd
      · rename_i hc
        rcases atS_width s i hi with hw | hw
        · exact absurd (.inl hw) hc
        · exact decGo_length s f _ _ l (by rw [List.length_append]; simp; omega) (by omega) hd
    · rw [← Option.some.inj hd]; omega
theorem decL_length (s : ByteArray) : (decL s).length ≤ s.size := by
  unfold decL
  cases hd : dec s with
  | none => simp
  | some l => exact decGo_length s _ _ _ l (by simp) (by omega) hd
theorem decL_small (s : ByteArray) : SmallL (decL s) := fun c hc => by have := decL_range s c hc; omega

/-- A string's script. -/
def script (s : ByteArray) : Int := scr (decL s) 0
theorem script_eq (s : ByteArray) (hs : s.size < 17592186044416) (k : Nat) (hk : 2 * s.size + 20 ≤ k) : repertoire_Script.f k s = some (script s) := by
  unfold repertoire_Script.f script
  rw [dec_eq s hs k (by omega), out_dec]
  have := decL_length s
  exact script_go (decL s) (decL_small s) (by omega) (decL s).length 0 k 0 (by omega) (by omega)
theorem refscript_eq (s : ByteArray) (hs : s.size < 17592186044416) (k : Nat) (hk : 2 * s.size + 400 ≤ k) : bookplateref04_Script.f k s = some (script s) := by
  unfold bookplateref04_Script.f script
  rw [refdec_eq s hs k (by omega), out_dec]
  have := decL_length s
  exact refscript_go (decL s) (decL_small s) (by omega) (decL s).length 0 k 0 (by omega) (by omega)

theorem same_go (a b : List Int) (he : a.length = b.length) (hl : a.length < 17592186044416) : ∀ (d i k : Nat), i + d = a.length → d + 1 ≤ k → bookplateref04_Same.l0 k a b (i : Int) = some (decide (a.drop i = b.drop i))
  | 0, i, k, h1, h2 => by
    obtain ⟨m, rfl⟩ : ∃ m, k = m + 1 := ⟨k - 1, by omega⟩
    simp only [bookplateref04_Same.l0]
    rw [if_neg (by omega), List.drop_of_length_le (by omega), List.drop_of_length_le (by omega)]
    simp
  | d + 1, i, k, h1, h2 => by
    obtain ⟨m, rfl⟩ : ∃ m, k = m + 1 := ⟨k - 1, by omega⟩
    have hi : i < a.length := by omega
    have hi' : i < b.length := by omega
    simp only [bookplateref04_Same.l0]
    rw [if_pos (by omega), if_pos (by omega), if_pos (by omega), rd_get a i hi, rd_get b i hi', show wrap64 ((i : Int) + 1) = ((i + 1 : Nat) : Int) from by unfold wrap64; omega, same_go a b he hl d (i + 1) m (by omega) (by omega), List.drop_eq_getElem_cons hi, List.drop_eq_getElem_cons hi']
    by_cases hc : a[i] = b[i]
    · rw [if_pos hc]
      congr 1
      rw [decide_eq_decide, hc]
      exact ⟨fun h => by rw [h], fun h => (List.cons.inj h).2⟩
    · rw [if_neg hc]
      congr 1
      symm
      rw [decide_eq_false_iff_not]
      exact fun h => hc (List.cons.inj h).1
theorem same_eq (a b : List Int) (hl : a.length < 17592186044416) (k : Nat) (hk : a.length + 1 ≤ k) : bookplateref04_Same.f k a b = some (decide (a = b)) := by
  unfold bookplateref04_Same.f
  by_cases he : a.length = b.length
  · rw [if_pos (by omega)]
    exact same_go a b he hl a.length 0 k (by omega) hk
  · rw [if_neg (by omega)]
    congr 1
    symm
    rw [decide_eq_false_iff_not]
    exact fun h => he (by rw [h])

theorem awake_eq (k : Nat) (hk : 400 ≤ k) : bookplatelaw04_awake.f k = some true := by
  obtain ⟨m, rfl⟩ : ∃ m, k = m + 8 := ⟨k - 8, by omega⟩
  have c1 : cls 233 = (1, 1) := by decide +kernel
  have c2 : cls 65296 = (0, 3) := by decide +kernel
  have d1 : decL ⟨#[195, 169]⟩ = [233] := by decide +kernel
  have d2 : script ⟨#[65, 208, 182]⟩ = 4 := by decide +kernel
  have d3 : vText ⟨#[195, 169]⟩ = true := by decide +kernel
  unfold bookplatelaw04_awake.f
  rw [class_eq m _ (by omega) (by omega), class_eq m _ (by omega) (by omega), c1, c2, count_eq _ (by decide) _ (by show 2 + 20 ≤ _; omega), script_eq _ (by decide) _ (by show 2 * 3 + 20 ≤ _; omega), valid_eq _ (by decide) _ (by show 2 + 20 ≤ _; omega), d1, d2, d3]
  rfl
end Go.Proofs.YtmmakaheagjpkaaDoor.Rep
