/- The plain law RepertoireList: the list of characters. -/
import Derived.Test.YtmmakaheagjpkaaDoorTexts
import Derived.Test.YtmmakaheagjpkaaDoorPr24
namespace Go.Proofs.YtmmakaheagjpkaaDoor.Rep
open Go.RowKit Go.Proofs.YtmmakaheagjpkaaDoorW.PrintWords Go.Lib Rune Go.Proofs.YtmmakaheagjpkaaDoor.Pr
set_option linter.unusedVariables false
set_option linter.unusedSimpArgs false

theorem wf64 {c : Int} (h : (Lit.int .i64 c).wf = true) : -9223372036854775808 ≤ c ∧ c ≤ 9223372036854775807 := by
  simp [Lit.wf, IntKind.min, IntKind.max, IntKind.bits, IntKind.signed] at h
  omega
/-- n whole numbers from c on. -/
def rng : Nat → Int → List Int
  | 0, _ => []
  | n + 1, c => c :: rng n (c + 1)
theorem mem_rng : ∀ (n : Nat) (c x : Int), x ∈ rng n c ↔ c ≤ x ∧ x < c + n
  | 0, c, x => by simp only [rng, List.not_mem_nil, false_iff]; omega
  | n + 1, c, x => by
    simp only [rng, List.mem_cons]
    rw [mem_rng n (c + 1) x]
    omega
theorem rng_sorted : ∀ (n : Nat) (c : Int), (rng n c).Pairwise (· < ·)
  | 0, c => List.Pairwise.nil
  | n + 1, c => by
    refine List.Pairwise.cons (fun x hx => ?_) (rng_sorted n (c + 1))
    have := (mem_rng n (c + 1) x).1 hx
    omega
theorem row_eq : ∀ (n : Nat) (c : Int) (acc : List Int), 0 ≤ c → c + n < 100000 → repertoire_List.row n c acc = some (acc ++ (rng n c).filter has)
  | 0, c, acc, _, _ => by simp [repertoire_List.row, rng]
  | n + 1, c, acc, h0, h1 => by
    simp only [repertoire_List.row, rng]
    rw [show (8 : Nat) = 0 + 8 from rfl, has_eq 0 c (by omega) (by omega)]
    simp only [Option.bind_some]
    rw [row_eq n (c + 1) _ (by omega) (by omega)]
    cases h : has c <;> simp [h]
/-- All characters. -/
def allL : List Int := (rng 1248 32 ++ rng 1119 64256).filter has
theorem list_eq : repertoire_List.f = some allL := by
  unfold repertoire_List.f
  simp only [repertoire_List.rest]
  rw [row_eq 1248 32 [] (by omega) (by omega)]
  simp only [Option.bind_some]
  rw [row_eq 1119 64256 _ (by omega) (by omega)]
  unfold allL
  rw [List.filter_append, List.nil_append]
/-- The same over natural numbers, for the count. -/
def latN : List Nat := latinL.map Int.toNat
def greN : List Nat := greekL.map Int.toNat
def cyrN : List Nat := cyrillicL.map Int.toNat
theorem mem_toNat (L : List Int) (h : ∀ x ∈ L, 0 ≤ x) (n : Nat) : (n : Int) ∈ L ↔ (L.map Int.toNat).elem n = true := by
  rw [List.elem_iff, List.mem_map]
  refine ⟨fun hm => ⟨n, hm, Int.toNat_natCast n⟩, ?_⟩
  rintro ⟨x, hx, e⟩
  have h0 := h x hx
  have : x = (n : Int) := by omega
  rw [← this]; exact hx
def h0 (c : Nat) : Bool :=
  c == 32 || c == 160 || (Nat.ble 48 c && Nat.ble c 57) || c == 178 || c == 179 || c == 185 || (Nat.ble 65 c && Nat.ble c 90) || (Nat.ble 97 c && Nat.ble c 122) || c == 383 || c == 64257 || c == 64258
  || (Nat.ble 192 c && Nat.ble c 382 && latN.elem c) || (Nat.ble 768 c && Nat.ble c 772) || (Nat.ble 774 c && Nat.ble c 776) || (Nat.ble 778 c && Nat.ble c 780) || c == 803 || c == 807 || c == 808
  || (Nat.ble 913 c && Nat.ble c 929) || (Nat.ble 931 c && Nat.ble c 937) || (Nat.ble 945 c && Nat.ble c 969) || (Nat.ble 902 c && Nat.ble c 974 && greN.elem c)
  || (Nat.ble 1040 c && Nat.ble c 1103) || (Nat.ble 1025 c && Nat.ble c 1169 && cyrN.elem c) || (Nat.ble 33 c && Nat.ble c 126)
theorem h0_eq (n : Nat) : ((cls0 (n : Int)).2 != 0) = h0 n := by
  have l1 : (n : Int) ∈ latinL ↔ (192 ≤ n ∧ n ≤ 382 ∧ latN.elem n = true) := by
    rw [show (latN.elem n = true) = ((n : Int) ∈ latinL) from propext (mem_toNat latinL (fun x hx => by have := latin_range x hx; omega) n).symm]
    exact ⟨fun h => by have := latin_range _ h; exact ⟨by omega, by omega, h⟩, fun h => h.2.2⟩
  have l2 : (n : Int) ∈ greekL ↔ (902 ≤ n ∧ n ≤ 974 ∧ greN.elem n = true) := by
    rw [show (greN.elem n = true) = ((n : Int) ∈ greekL) from propext (mem_toNat greekL (fun x hx => by have := greek_range x hx; omega) n).symm]
    exact ⟨fun h => by have := greek_range _ h; exact ⟨by omega, by omega, h⟩, fun h => h.2.2⟩
  have l3 : (n : Int) ∈ cyrillicL ↔ (1025 ≤ n ∧ n ≤ 1169 ∧ cyrN.elem n = true) := by
    rw [show (cyrN.elem n = true) = ((n : Int) ∈ cyrillicL) from propext (mem_toNat cyrillicL (fun x hx => by have := cyrillic_range x hx; omega) n).symm]
    exact ⟨fun h => by have := cyrillic_range _ h; exact ⟨by omega, by omega, h⟩, fun h => h.2.2⟩
  have key : h0 n = true ↔ ((n = 32 ∨ n = 160) ∨ ((48 ≤ n ∧ n ≤ 57) ∨ n = 178 ∨ n = 179 ∨ n = 185) ∨ ((65 ≤ n ∧ n ≤ 90) ∨ (97 ≤ n ∧ n ≤ 122) ∨ n = 383 ∨ n = 64257 ∨ n = 64258 ∨ (n : Int) ∈ latinL) ∨ ((768 ≤ n ∧ n ≤ 772) ∨ (774 ≤ n ∧ n ≤ 776) ∨ (778 ≤ n ∧ n ≤ 780) ∨ n = 803 ∨ n = 807 ∨ n = 808) ∨ ((913 ≤ n ∧ n ≤ 929) ∨ (931 ≤ n ∧ n ≤ 937) ∨ (945 ≤ n ∧ n ≤ 969) ∨ (n : Int) ∈ greekL) ∨ ((1040 ≤ n ∧ n ≤ 1103) ∨ (n : Int) ∈ cyrillicL) ∨ (33 ≤ n ∧ n ≤ 126)) := by
    rw [l1, l2, l3]
    unfold h0
    simp only [Bool.or_eq_true, Bool.and_eq_true, beq_iff_eq, Nat.ble_eq]
    grind (splits := 60)
  have k2 : ((cls0 (n : Int)).2 != 0) = true ↔ h0 n = true := by
    rw [key]
    unfold cls0
    grind (splits := 60)
  cases h : h0 n with
  | true => exact k2.2 h
  | false =>
    cases h' : ((cls0 (n : Int)).2 != 0) with
    | false => rfl
    | true => rw [k2.1 h'] at h; cases h
def hN (c : Nat) : Bool := if Nat.ble 65281 c && Nat.ble c 65374 then h0 (c - 65248) else h0 c
theorem has_nat (n : Nat) : has (n : Int) = hN n := by
  unfold has cls hN
  by_cases h : 65281 ≤ n ∧ n ≤ 65374
  · rw [if_pos (by omega), if_pos (by simp only [Bool.and_eq_true, Nat.ble_eq]; exact h), show ((n : Int) - 65248) = ((n - 65248 : Nat) : Int) by omega, h0_eq]
  · rw [if_neg (by omega), if_neg (by simp only [Bool.and_eq_true, Nat.ble_eq]; exact h), h0_eq]
def cnt : Nat → Nat → Nat → Nat
  | 0, _, a => a
  | n + 1, c, a => cnt n (c + 1) (if hN c then a + 1 else a)
theorem cnt_eq : ∀ (n c a : Nat), cnt n c a = a + ((rng n (c : Int)).filter has).length
  | 0, c, a => by simp [cnt, rng]
  | n + 1, c, a => by
    rw [cnt, cnt_eq n (c + 1), rng, List.filter_cons, has_nat]
    cases hN c with
    | true => simp only [if_true, List.length_cons]; rw [show ((c : Int) + 1) = ((c + 1 : Nat) : Int) by omega]; omega
    | false => simp only [Bool.false_eq_true, if_false]; rw [show ((c : Int) + 1) = ((c + 1 : Nat) : Int) by omega]
theorem cnt_all : cnt 1119 64256 (cnt 1248 32 0) = 536 := by decide +kernel
theorem all_length : allL.length = 536 := by
  have h := cnt_all
  rw [cnt_eq, cnt_eq] at h
  unfold allL
  rw [List.filter_append, List.length_append]
  rw [show ((32 : Nat) : Int) = 32 from rfl, show ((64256 : Nat) : Int) = 64256 from rfl] at h
  omega
theorem all_sorted : allL.Pairwise (· < ·) := by
  unfold allL
  refine List.Pairwise.filter _ (List.pairwise_append.2 ⟨rng_sorted _ _, rng_sorted _ _, fun a ha b hb => ?_⟩)
  have h1 := (mem_rng _ _ _).1 ha
  have h2 := (mem_rng _ _ _).1 hb
  omega
theorem gap : ∀ x ∈ rng 256 64000, has x = false := by decide +kernel
theorem mem_all (c : Int) : c ∈ allL ↔ has c = true := by
  unfold allL
  rw [List.mem_filter, List.mem_append, mem_rng, mem_rng]
  refine ⟨fun h => h.2, fun h => ⟨?_, h⟩⟩
  have hr := has_range c h
  have hg : ¬ (64000 ≤ c ∧ c < 64256) := fun hx => by
    have := gap c ((mem_rng _ _ _).2 (by omega))
    rw [h] at this
    cases this
  omega
theorem refhas_eq (k : Nat) (hk : 320 ≤ k) (c : Int) (hc : -9223372036854775808 ≤ c) (hc2 : c ≤ 9223372036854775807) : bookplateref04_Has.f k c = some (has c) := by
  obtain ⟨m, rfl⟩ : ∃ m, k = m + 320 := ⟨k - 320, by omega⟩
  unfold bookplateref04_Has.f
  rw [refclass_eq m c hc hc2]
  rfl
theorem list_loop (L : List Int) (hl : L.length = 536) (hso : L.Pairwise (· < ·)) (hme : ∀ c, c ∈ L ↔ has c = true) (x : Int) (hx1 : -9223372036854775808 ≤ x) (hx2 : x ≤ 9223372036854775807) : ∀ (d i k : Nat) (b : Bool), i + d = L.length → d + 400 ≤ k → b = decide (x ∈ L.take i) → ∀ iI : Int, iI = (i : Int) → bookplatelaw04_RepertoireList.l0 k x L b (L.length : Int) iI = some true
  | 0, i, k, b, h1, h2, h3, _, rfl => by
    obtain ⟨m, rfl⟩ : ∃ m, k = m + 8 + 1 := ⟨k - 9, by omega⟩
    simp only [bookplatelaw04_RepertoireList.l0]
    rw [if_neg (by omega), if_pos (by omega), has_eq m x hx1 hx2]
    simp only [Option.bind_some]
    rw [h3, List.take_of_length_le (by omega)]
    have hm := hme x
    cases hh : has x with
    | true => simp [hm.2 hh]
    | false =>
      have : ¬ x ∈ L := fun h => by rw [hm.1 h] at hh; cases hh
      simp [this]
  | d + 1, i, k, b, h1, h2, h3, _, rfl => by
    obtain ⟨m, rfl⟩ : ∃ m, k = m + 1 := ⟨k - 1, by omega⟩
    have hlt : i < L.length := by omega
    have hmem : L[i] ∈ L := List.getElem_mem _
    have hhas := (hme _).1 hmem
    have hr := has_range _ hhas
    have hw : wrap64 ((i : Int) + 1) = ((i + 1 : Nat) : Int) := by unfold wrap64; omega
    have hrec : ∀ b', b' = decide (x ∈ L.take (i + 1)) → bookplatelaw04_RepertoireList.l0 m x L b' (L.length : Int) ((i + 1 : Nat) : Int) = some true := fun b' hb' => list_loop L hl hso hme x hx1 hx2 d (i + 1) m b' (by omega) (by omega) hb' _ rfl
    have htake : L.take (i + 1) = L.take i ++ [L[i]] := by rw [List.take_add_one, List.getElem?_eq_getElem hlt]; rfl
    have hmt : x ∈ L.take (i + 1) ↔ x ∈ L.take i ∨ x = L[i] := by rw [htake, List.mem_append, List.mem_singleton]
    have fin : (if b = true then bookplatelaw04_RepertoireList.l0 m x L true (L.length : Int) ((i + 1 : Nat) : Int) else bookplatelaw04_RepertoireList.l0 m x L (L[i] == x) (L.length : Int) ((i + 1 : Nat) : Int)) = some true := by
      cases hb : b with
      | true =>
        rw [hb] at h3
        have hin := of_decide_eq_true h3.symm
        rw [if_pos rfl]
        exact hrec true (by rw [decide_eq_true (hmt.2 (.inl hin))])
      | false =>
        rw [hb] at h3
        have hin := of_decide_eq_false h3.symm
        rw [if_neg (by simp)]
        refine hrec _ ?_
        by_cases he : x = L[i]
        · rw [decide_eq_true (hmt.2 (.inr he)), he]
          exact beq_self_eq_true _
        · rw [decide_eq_false (fun h => (hmt.1 h).elim hin he)]
          exact beq_eq_false_iff_ne.2 (fun e => he e.symm)
    simp only [bookplatelaw04_RepertoireList.l0]
    rw [if_pos (by omega), hw, rd_get L i hlt, refhas_eq m (by omega) _ (by omega) (by omega)]
    simp only [Option.bind_some]
    by_cases hi : i = 0
    · rw [if_neg (by omega), if_pos (by omega), if_pos (by omega), if_pos hhas]
      exact fin
    · obtain ⟨j, rfl⟩ : ∃ j, i = j + 1 := ⟨i - 1, by omega⟩
      have hwj : wrap64 (((j + 1 : Nat) : Int) - 1) = (j : Int) := by unfold wrap64; omega
      have hlt2 := List.pairwise_iff_getElem.1 hso j (j + 1) (by omega) hlt (by omega)
      rw [if_pos (by omega), hwj, if_pos (by omega), if_pos (by omega), if_pos (by omega), if_pos (by omega), rd_get L j (by omega), if_neg (by omega), if_pos hhas]
      exact fin
theorem list_facts : ∃ L : List Int, repertoire_List.f = some L ∧ L.length = 536 ∧ L.Pairwise (· < ·) ∧ ∀ c, c ∈ L ↔ has c = true := ⟨allL, list_eq, all_length, all_sorted, mem_all⟩
theorem RepertoireList : bookplatelaw04_RepertoireList.Pure := by
  intro x hx
  obtain ⟨h1, h2⟩ := wf64 hx
  obtain ⟨L, hL, hl, hs, hm⟩ := list_facts
  refine ⟨2000, ?_⟩
  unfold bookplatelaw04_RepertoireList.f
  rw [awake_eq _ (by omega), hL]
  simp only [Option.bind_some, if_true]
  exact list_loop L hl hs hm x h1 h2 L.length 0 2000 false (by omega) (by omega) (by simp only [List.take_zero, List.not_mem_nil, decide_false]) 0 rfl
end Go.Proofs.YtmmakaheagjpkaaDoor.Rep
namespace Go.Proofs.YtmmakaheagjpkaaDoor.Pure
open Go.Proofs.YtmmakaheagjpkaaDoor.Pr
theorem RepertoireList : bookplatelaw04_RepertoireList.Pure := Rep.RepertoireList
end Go.Proofs.YtmmakaheagjpkaaDoor.Pure
