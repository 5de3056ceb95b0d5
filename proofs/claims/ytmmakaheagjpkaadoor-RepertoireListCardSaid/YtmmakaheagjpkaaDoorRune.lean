/- strings.IndexRune at a rune beyond ASCII, over a string in which its way to the fast search is never taken; strings.ContainsRune. -/
import Derived.Test.YtmmakaheagjpkaaDoorAid
import Derived.ScopeJumps
import Derived.WalkMore
import Derived.WalkKit
import Derived.BigQuiet
import Derived.Deep.QuietTactic
import Derived.Outline
import Derived.IntWalk
import Derived.Lib.IndexLaws
import Derived.Lib.Hide
import Derived.Laws.RangeAny
namespace Go.Proofs.YtmmakaheagjpkaaDoor.Rune
open Go.RowKit Go.Proofs.YtmmakaheagjpkaaDoorW.PrintWords Go.Lib

/-- A scope with one jump forward. -/
theorem wp_scope_fwd {P : Program} {a : Act} {w : World} {Q : Exit → Act → World → Prop} {c rest : Code} (l : Nat) (hf : findLabel c l = some rest)
    (first : c.wp P (Exit.jump l (fun a w => rest.wp P (Exit.noGoto Q) a w) Q) a w) : (Code.scope c).wp P Q a w :=
  wp_scope_jumps l _ (fun _ _ => 0) hf first (fun a w h => wp_mono h (fun e a w q => by cases e <;> first | exact q | exact q.elim))

/-- How often c stands among the first i. -/
def cnt (l : List UInt8) (c : UInt8) (i : Nat) : Nat := (l.take i).count c

theorem at_list (s : ByteArray) (k : Nat) (h : k < s.size) : s.data.toList[k]? = some (s[k]'h) := by
  rw [List.getElem?_eq_getElem (by rw [Array.length_toList]; exact h)]; rfl
theorem size_list (s : ByteArray) : s.data.toList.length = s.size := by rw [Array.length_toList]; rfl
theorem cnt_succ (s : ByteArray) (c : UInt8) (i : Nat) (h : i < s.size) (hc : s[i] = c) : cnt s.data.toList c (i + 1) = cnt s.data.toList c i + 1 := by
  unfold cnt
  rw [List.take_add_one, at_list s i h, hc, List.count_append]
  simp
theorem cnt_mono (l : List UInt8) (c : UInt8) {i k : Nat} (h : i ≤ k) : cnt l c i ≤ cnt l c k := by
  unfold cnt
  exact (List.take_sublist_take_left h).count_le _
/-- An instance at i: byte for byte. -/
theorem occ_iff (l t : List UInt8) (i : Nat) : occAt l t i = true ↔ ∀ q, q < t.length → l[i + q]? = t[q]? := by
  unfold occAt
  rw [List.isPrefixOf_iff_prefix]
  constructor
  · rintro ⟨u, hu⟩ q hq
    have := congrArg (·[q]?) hu
    simp only [List.getElem?_append_left hq, List.getElem?_drop] at this
    exact this.symm
  · intro h
    refine ⟨(l.drop i).drop t.length, ?_⟩
    apply List.ext_getElem?
    intro q
    by_cases hq : q < t.length
    · rw [List.getElem?_append_left hq, List.getElem?_drop, h q hq]
    · rw [List.getElem?_append_right (Nat.le_of_not_lt hq)]
      simp only [List.getElem?_drop]
      congr 1; omega
theorem no_last {s rs : ByteArray} {m i : Nat} {b : UInt8} (hsz : rs.size = m + 1) (g1 : rs[m]'(by omega) = b) (hi : m ≤ i) (h : s.data.toList[i]? ≠ some b) : occAt s.data.toList rs.data.toList (i - m) = false := by
  cases ho : occAt s.data.toList rs.data.toList (i - m) with
  | false => rfl
  | true =>
    have := (occ_iff _ _ _).1 ho m (by rw [size_list]; omega)
    rw [at_list rs m (by omega), g1, show i - m + m = i from by omega] at this
    exact absurd this h
theorem occ_miss {s rs : ByteArray} {m i j : Nat} (hsz : rs.size = m + 1) (hi : m ≤ i) (hlt : i < s.size) (hj : j ≤ m) (h : (s[i - j]'(by omega)) ≠ (rs[m - j]'(by omega))) : occAt s.data.toList rs.data.toList (i - m) = false := by
  cases ho : occAt s.data.toList rs.data.toList (i - m) with
  | false => rfl
  | true =>
    have := (occ_iff _ _ _).1 ho (m - j) (by rw [size_list]; omega)
    rw [at_list rs (m - j) (by omega), show i - m + (m - j) = i - j from by omega, at_list s (i - j) (by omega)] at this
    exact absurd (Option.some.inj this) h
theorem occ_all {s rs : ByteArray} {m i : Nat} {b : UInt8} (hsz : rs.size = m + 1) (g1 : rs[m]'(by omega) = b) (hi : m ≤ i) (hlt : i < s.size) (hb : s[i] = b) (h : ∀ q, 1 ≤ q → q < m + 1 → s.data.toList[i - q]? = rs.data.toList[m - q]?) : occAt s.data.toList rs.data.toList (i - m) = true := by
  refine (occ_iff _ _ _).2 fun q hq => ?_
  rw [size_list] at hq
  by_cases e : q = m
  · subst e
    rw [at_list rs q (by omega), g1, show i - q + q = i from by omega, at_list s i hlt, hb]
  · have := h (m - q) (by omega) (by omega)
    rw [show i - (m - q) = i - m + q from by omega, show m - (m - q) = q from by omega] at this
    exact this
theorem match_step {s rs : ByteArray} {m i j : Nat} (hsz : rs.size = m + 1) (hi : m ≤ i) (hlt : i < s.size) (hj : j ≤ m) (h : ∀ q, 1 ≤ q → q < j → s.data.toList[i - q]? = rs.data.toList[m - q]?) (hc : (s[i - j]'(by omega)) = (rs[m - j]'(by omega))) :
    ∀ q, 1 ≤ q → q < j + 1 → s.data.toList[i - q]? = rs.data.toList[m - q]? := fun q h1 h2 => by
  by_cases e : q = j
  · subst e
    rw [at_list s (i - q) (by omega), at_list rs (m - q) (by omega), hc]
  · exact h q h1 (by omega)
theorem indexByte_cases (l : List UInt8) (c : UInt8) : Lib.indexByte l c = -1 ∨ ∃ k : Nat, Lib.indexByte l c = k ∧ k < l.length := by
  induction l with
  | nil => exact .inl rfl
  | cons x l ih =>
    unfold Lib.indexByte
    by_cases h : (x == c) = true
    · exact .inr ⟨0, by simp [h], by simp⟩
    · rw [if_neg h]
      rcases ih with h' | ⟨k, h', hk⟩
      · exact .inl (by simp [h'])
      · refine .inr ⟨k + 1, ?_, by simp; omega⟩
        rw [h', if_neg (by first | (simp; done) | (simp; omega))]; rfl
theorem no_occ_more {s rs : ByteArray} {m i i2 : Nat} {b : UInt8} (hsz : rs.size = m + 1) (g1 : rs[m]'(by omega) = b) (h : NoOcc s.data.toList rs.data.toList (i + 1 - m)) (hq : ∀ q, i + 1 ≤ q → q < i2 → s.data.toList[q]? ≠ some b) : NoOcc s.data.toList rs.data.toList (i2 - m) := fun j hj => by
  by_cases hj1 : j < i + 1 - m
  · exact h j hj1
  · have := no_last (i := j + m) hsz g1 (by omega) (hq (j + m) (by omega) (by omega))
    rwa [Nat.add_sub_cancel] at this
theorem index_none_from {s rs : ByteArray} {m i : Nat} {b : UInt8} (hsz : rs.size = m + 1) (g1 : rs[m]'(by omega) = b) (h : NoOcc s.data.toList rs.data.toList (i + 1 - m)) (hq : ∀ q, i + 1 ≤ q → s.data.toList[q]? ≠ some b) : Lib.index s.data.toList rs.data.toList = -1 :=
  index_none fun j _ => no_occ_more (i2 := j + 1 + m) hsz g1 h (fun q h1 _ => hq q h1) j (by omega)
theorem ret64 {a b : Int} (h : a = b) : Ending.returned (.int .i64 a) = .returned (.int .i64 b) := by rw [h]

set_option maxHeartbeats 4000000 in
set_option maxRecDepth 100000 in
theorem index_some (s : ByteArray) (r : Int) (w : World) (h1 : 128 ≤ r) (h2 : r < 65536) (hv : Utf8.valid r = true) (hr : r ≠ 65533) (rs : ByteArray) (he : Utf8.encode r = rs) (m : Nat) (hm1 : 1 ≤ m) (hm2 : m ≤ 2) (hsz : rs.size = m + 1) (b : UInt8) (g1 : rs[m]'(by omega) = b) (hs : s.size < 4611686018427387904)
    (hF : ∀ i, i ≤ s.size → cnt s.data.toList b i ≤ (i + 16) / 8) :
    Calls Tryd.prog 50 #[.string s, .int .i32 r] w fun e w' => e = .returned (.int .i64 (Lib.index s.data.toList rs.data.toList)) ∧ Drawn0 w w' := by
  have e1 : decide ((0 : Int) ≤ r) = true := by simp; omega
  have e2 : decide (r < (128 : Int)) = false := by simp; omega
  have e3 : (r == (65533 : Int)) = false := by simp; omega
  have e4 : Lib.validRune r = true := by
    simp only [Utf8.valid, Bool.or_eq_true, Bool.and_eq_true, decide_eq_true_eq] at hv
    simp [Lib.validRune]; omega
  go_enter Tryd.func50, Tryd.ntmps50
  go_wp2_with (go_at_call 56; refine (Tryd.utf8_ValidRune _ _).mono ?_; rintro e w' ⟨rfl, hw⟩; rw [hw]; clear hw)
  go_step3
  go_wp2
  go_loopw [9, 10, 11, 12] (fun vi vf _ _ wc => ∃ i f : Nat, vi = .int .i64 i ∧ vf = .int .i64 f ∧ m ≤ i ∧ i ≤ s.size + m ∧ Aside0 (NoOcc s.data.toList rs.data.toList (i - m)) ∧ Aside0 (f ≤ cnt s.data.toList b i) ∧ Drawn0 w wc) (fun vi _ _ _ _ => (s.size + m) - (RowKit.intOf vi).toNat)
  case atStart => exact ⟨m, 0, rfl, rfl, by omega, by omega, ⟨by rw [Nat.sub_self]; exact NoOcc.zero _ _⟩, ⟨by omega⟩, Drawn0.refl _⟩
  case round =>
    obtain ⟨i, f, rfl, rfl, hi1, hi2, HN, hfc, ⟨nd, rfl⟩⟩ := hrel
    by_cases hlt : i < s.size
    · by_cases hb : s[i] = b
      · go_wp2
        refine wp_scope_fwd 0 rfl ?_
        go_wp2
        go_quiet (fail)
        go_wp2
        have hf3 : Aside0 (f + 1 ≤ cnt s.data.toList b (i + 1)) := ⟨by rw [cnt_succ s b i hlt hb]; have := hfc.out; omega⟩
        have hf4 : ¬ (((i : Int) + 1 + 16) / 8 < (f : Int) + 1) := by have := hF (i + 1) hlt; have := hf3.out; omega
        have hf5 : (f : Int) ≤ 4611686018427387904 := by omega
        go_loopw [12] (fun vj wc => ∃ j : Nat, vj = .int .i64 j ∧ 1 ≤ j ∧ j ≤ m + 1 ∧ Aside0 (∀ q, 1 ≤ q → q < j → s.data.toList[i - q]? = rs.data.toList[m - q]?) ∧ Drawn0 w wc) (fun vj _ => (m + 1) - (RowKit.intOf vj).toNat)
        case atStart => exact ⟨1, rfl, by omega, by omega, ⟨fun q h1 h2 => by omega⟩, ⟨by first | exact ⟨_, rfl⟩ | exact ⟨_, World.drewN_drewN _ _ _⟩⟩⟩
        case round =>
          obtain ⟨j, rfl, hj1, hj2, HJ, ⟨nd2, rfl⟩⟩ := hrel
          by_cases hj : j ≤ m
          · have p1 : (0 : Int) ≤ (i : Int) - j := by omega
            have p2 : (i : Int) - j < s.size := by omega
            have p3 : (0 : Int) ≤ (m : Int) - j := by omega
            have p4 : (m : Int) - j < (m : Int) + 1 := by omega
            have p5 : j ≤ i := by omega
            by_cases hc : (s[i - j]'(by omega)) = (rs[m - j]'(by omega))
            · have HJ' := Aside0.mk (match_step hsz hi1 hlt hj HJ.out hc)
              have q1 : IntKind.i64.wrap ((i : Int) - j) = (i : Int) - j := IntWalk.i64_in _ (by omega)
              have q2 : IntKind.i64.wrap ((m : Int) - j) = (m : Int) - j := IntWalk.i64_in _ (by omega)
              have q3 : ((i : Int) - j).toNat = i - j := by omega
              have q4 : ((m : Int) - j).toNat = m - j := by omega
              go_wp2
              go_quiet (fail)
              try clear q1
              try clear q2
              try clear q3
              try clear q4
              go_wp2
              go_roundw
              case rel => exact ⟨j + 1, by go_num, by omega, by omega, HJ', ⟨_, rfl⟩⟩
              case measure => simp [RowKit.intOf]; omega
            · have HM := Aside0.mk (occ_miss hsz hi1 hlt hj hc)
              have hc2 : (((s[i - j]'(by omega)).toNat : Int) != ((rs[m - j]'(by omega)).toNat : Int)) = true := by
                rw [bne_iff_ne]
                intro e
                exact hc (UInt8.toNat_inj.1 (Int.ofNat_inj.1 e))
              have q1 : IntKind.i64.wrap ((i : Int) - j) = (i : Int) - j := IntWalk.i64_in _ (by omega)
              have q2 : IntKind.i64.wrap ((m : Int) - j) = (m : Int) - j := IntWalk.i64_in _ (by omega)
              have q3 : ((i : Int) - j).toNat = i - j := by omega
              have q4 : ((m : Int) - j).toNat = m - j := by omega
              go_wp2
              go_quiet (fail)
              try clear q1
              try clear q2
              try clear q3
              try clear q4
              go_wp2
              go_step3
              refine ⟨rfl, ?_⟩
              go_wp2_with (go_at_call 57; refine (Tryd.bytealg_Cutover _ (by omega) (by omega) _).mono ?_; rintro e w' ⟨rfl, hw⟩; rw [hw]; clear hw)
              refine ⟨⟨i + 1, f + 1, by go_num, by go_num, by omega, by omega, ⟨by rw [show i + 1 - m = i - m + 1 from by omega]; exact HN.out.succ HM.out⟩, ⟨hf3.out⟩, ⟨_, rfl⟩⟩, by simp [RowKit.intOf]; omega⟩
          · have hje : j = m + 1 := by omega
            have HI := Aside0.mk (index_hit HN.out (by rw [size_list]; omega) (occ_all hsz g1 hi1 hlt hb (by rw [hje] at HJ; exact HJ.out)))
            clear hje
            go_wp2
            refine ⟨rfl, _, results_tmp (t := 4) rfl _ _ _, ?_, ⟨_, rfl⟩⟩
            show Ending.returned (.int .i64 ((i : Int) - m)) = _
            exact ret64 (by rw [HI.out]; omega)
      · have hbl : s.data.toList[i]? ≠ some b := by rw [at_list s i hlt]; exact fun e => hb (Option.some.inj e)
        have hbn : (((s[i]).toNat : Int) != (b.toNat : Int)) = true := by
          rw [bne_iff_ne]
          intro e
          exact hb (UInt8.toNat_inj.1 (Int.ofNat_inj.1 e))
        have HN1 : NoOcc s.data.toList rs.data.toList (i + 1 - m) := by
          rw [show i + 1 - m = i - m + 1 from by omega]; exact HN.out.succ (no_last hsz g1 hi1 hbl)
        have HD : ∀ k, (s.extract (i + 1) s.size).data.toList[k]? = s.data.toList[i + 1 + k]? := fun k => by
          rw [extract_data, List.getElem?_take, List.getElem?_drop]
          split
          · rfl
          · rw [List.getElem?_eq_none (by rw [size_list]; omega)]
        obtain ⟨o, ho⟩ : ∃ o, Lib.indexByte (s.extract (i + 1) s.size).data.toList b = o := ⟨_, rfl⟩
        have CB : ∀ W : World, Calls Tryd.prog 55 #[.string (s.extract (i + 1) s.size), .int .u8 b.toNat] W fun e w' => e = .returned (.int .i64 o) ∧ w' = W := fun W => by
          have := Tryd.strings_IndexByte (s.extract (i + 1) s.size) b.toNat W
          rwa [show ((b.toNat : Int).toNat.toUInt8) = b from by simp, ho] at this
        rcases indexByte_cases (s.extract (i + 1) s.size).data.toList b with hm | ⟨k, hm, hk⟩
        · obtain rfl : o = -1 := ho.symm.trans hm
          have HI : Lib.index s.data.toList rs.data.toList = -1 := index_none_from hsz g1 HN1 (fun q hq => by
            have := indexByte_none hm (q - (i + 1))
            rw [HD, show i + 1 + (q - (i + 1)) = q from by omega] at this
            exact this)
          have HI := Aside0.mk HI
          have w1 : IntKind.i64.wrap ((i : Int) + 1) = (i : Int) + 1 := IntWalk.i64_in _ (by omega)
          have w2 : ((i : Int) + 1).toNat = i + 1 := by omega
          have w3 : (0 : Int) ≤ (i : Int) + 1 := by omega
          have w4 : (i : Int) + 1 ≤ s.size := by omega
          clear ho hm HD HN1
          go_wp2
          refine wp_scope_fwd 0 rfl ?_
          go_wp2
          go_quiet (fail)
          go_wp2
          go_quiet ((go_at_call 55; (refine (CB _).mono ?_; rintro e w'' ⟨rfl, rfl⟩; exact ⟨rfl, _, rfl⟩)))
          go_wp2
          refine ⟨rfl, _, results_tmp (t := 4) rfl _ _ _, ?_, ⟨_, rfl⟩⟩
          show Ending.returned (.int .i64 (-1)) = _
          exact ret64 HI.out.symm
        · obtain rfl : o = (k : Int) := ho.symm.trans hm
          obtain ⟨hk1, hk2⟩ := indexByte_some hm
          obtain ⟨i2, hi2e⟩ : ∃ i2 : Nat, i + (k + 1) = i2 := ⟨_, rfl⟩
          have hib : s.data.toList[i2]? = some b := by rw [HD, show i + 1 + k = i2 from by omega] at hk1; exact hk1
          have hltb : i2 < s.size := by
            have := (List.getElem?_eq_some_iff.1 hib).1
            rw [size_list] at this; exact this
          have hbb : s[i2] = b := by rw [at_list s i2 hltb] at hib; exact Option.some.inj hib
          have hi1b : m ≤ i2 := by omega
          have HNb : Aside0 (NoOcc s.data.toList rs.data.toList (i2 - m)) := ⟨no_occ_more hsz g1 HN1 (fun q hq1 hq2 => by
            have := hk2 (q - (i + 1)) (by omega)
            rw [HD, show i + 1 + (q - (i + 1)) = q from by omega] at this
            exact this)⟩
          have hfcb : Aside0 (f ≤ cnt s.data.toList b i2) := ⟨Nat.le_trans hfc.out (cnt_mono _ _ (by omega))⟩
          have hi2i : ((i : Int) + ((k : Int) + 1)) = (i2 : Int) := by omega
          have HI2 := Lib.hid hi2i
          have hkb : (k : Int) ≤ 4611686018427387904 := by omega
          have w1 : IntKind.i64.wrap ((i : Int) + 1) = (i : Int) + 1 := IntWalk.i64_in _ (by omega)
          have w2 : ((i : Int) + 1).toNat = i + 1 := by omega
          have w3 : (0 : Int) ≤ (i : Int) + 1 := by omega
          have w4 : (i : Int) + 1 ≤ s.size := by omega
          clear ho hm HD HN1 hk1 hk2 hib hi2i
          have hi2s := Lib.hid hi2e
          clear hi2e
          go_wp2
          refine wp_scope_fwd 0 rfl ?_
          go_wp2
          go_quiet (fail)
          go_wp2
          go_quiet ((go_at_call 55; (refine (CB _).mono ?_; rintro e w'' ⟨rfl, rfl⟩; exact ⟨rfl, _, rfl⟩)))
          clear w1 w2
          go_wp2
          rw [HI2.out]
          have hi2e := hi2s.out
          have hf3 : Aside0 (f + 1 ≤ cnt s.data.toList b (i2 + 1)) := ⟨by rw [cnt_succ s b i2 hltb hbb]; have := hfcb.out; omega⟩
          have hf4 : ¬ (((i2 : Int) + 1 + 16) / 8 < (f : Int) + 1) := by have := hF (i2 + 1) hltb; have := hf3.out; omega
          have hf5 : (f : Int) ≤ 4611686018427387904 := by omega
          go_loopw [12] (fun vj wc => ∃ j : Nat, vj = .int .i64 j ∧ 1 ≤ j ∧ j ≤ m + 1 ∧ Aside0 (∀ q, 1 ≤ q → q < j → s.data.toList[i2 - q]? = rs.data.toList[m - q]?) ∧ Drawn0 w wc) (fun vj _ => (m + 1) - (RowKit.intOf vj).toNat)
          case atStart => exact ⟨1, rfl, by omega, by omega, ⟨fun q h1 h2 => by omega⟩, ⟨by first | exact ⟨_, rfl⟩ | exact ⟨_, World.drewN_drewN _ _ _⟩⟩⟩
          case round =>
            obtain ⟨j, rfl, hj1, hj2, HJ, ⟨nd2, rfl⟩⟩ := hrel
            by_cases hj : j ≤ m
            · have p1 : (0 : Int) ≤ (i2 : Int) - j := by omega
              have p2 : (i2 : Int) - j < s.size := by omega
              have p3 : (0 : Int) ≤ (m : Int) - j := by omega
              have p4 : (m : Int) - j < (m : Int) + 1 := by omega
              have p5 : j ≤ i2 := by omega
              by_cases hc : (s[i2 - j]'(by omega)) = (rs[m - j]'(by omega))
              · have HJ' := Aside0.mk (match_step hsz hi1b hltb hj HJ.out hc)
                have q1 : IntKind.i64.wrap ((i2 : Int) - j) = (i2 : Int) - j := IntWalk.i64_in _ (by omega)
                have q2 : IntKind.i64.wrap ((m : Int) - j) = (m : Int) - j := IntWalk.i64_in _ (by omega)
                have q3 : ((i2 : Int) - j).toNat = i2 - j := by omega
                have q4 : ((m : Int) - j).toNat = m - j := by omega
                go_wp2
                go_quiet (fail)
                try clear q1
                try clear q2
                try clear q3
                try clear q4
                go_wp2
                go_roundw
                case rel => exact ⟨j + 1, by go_num, by omega, by omega, HJ', ⟨_, rfl⟩⟩
                case measure => simp [RowKit.intOf]; omega
              · have HM := Aside0.mk (occ_miss hsz hi1b hltb hj hc)
                have hc2 : (((s[i2 - j]'(by omega)).toNat : Int) != ((rs[m - j]'(by omega)).toNat : Int)) = true := by
                  rw [bne_iff_ne]
                  intro e
                  exact hc (UInt8.toNat_inj.1 (Int.ofNat_inj.1 e))
                have q1 : IntKind.i64.wrap ((i2 : Int) - j) = (i2 : Int) - j := IntWalk.i64_in _ (by omega)
                have q2 : IntKind.i64.wrap ((m : Int) - j) = (m : Int) - j := IntWalk.i64_in _ (by omega)
                have q3 : ((i2 : Int) - j).toNat = i2 - j := by omega
                have q4 : ((m : Int) - j).toNat = m - j := by omega
                go_wp2
                go_quiet (fail)
                try clear q1
                try clear q2
                try clear q3
                try clear q4
                go_wp2
                go_step3
                refine ⟨rfl, ?_⟩
                go_wp2_with (go_at_call 57; refine (Tryd.bytealg_Cutover _ (by omega) (by omega) _).mono ?_; rintro e w' ⟨rfl, hw⟩; rw [hw]; clear hw)
                refine ⟨⟨i2 + 1, f + 1, by go_num, by go_num, by omega, by omega, ⟨by rw [show i2 + 1 - m = i2 - m + 1 from by omega]; exact HNb.out.succ HM.out⟩, ⟨hf3.out⟩, ⟨_, rfl⟩⟩, by simp [RowKit.intOf]; omega⟩
            · have hje : j = m + 1 := by omega
              have HI := Aside0.mk (index_hit HNb.out (by rw [size_list]; omega) (occ_all hsz g1 hi1b hltb hbb (by rw [hje] at HJ; exact HJ.out)))
              clear hje
              go_wp2
              refine ⟨rfl, _, results_tmp (t := 4) rfl _ _ _, ?_, ⟨_, rfl⟩⟩
              show Ending.returned (.int .i64 ((i2 : Int) - m)) = _
              exact ret64 (by rw [HI.out]; omega)
    · have HI := Aside0.mk (index_past (by intro e; have := size_list rs; rw [e] at this; simp at this; omega) HN.out (by rw [size_list, size_list]; omega))
      go_wp2
      rw [Exit.noGoto_ret]
      go_ret
      exact ⟨ret64 (by rw [HI.out]), ⟨_, rfl⟩⟩

set_option maxHeartbeats 4000000 in
set_option maxRecDepth 1000000 in
/-- At U+FFFD: over a string of characters of two bytes. -/
theorem index_err (s : ByteArray) (w : World) (hG : ∀ p, p < s.size → p % 2 = 0 → (Utf8.decode s p).2 = 2 ∧ (Utf8.decode s p).1 ≠ 65533) :
    Calls Tryd.prog 50 #[.string s, .int .i32 65533] w fun e w' => e = .returned (.int .i64 (-1)) ∧ Below w.heap.size w w' := by
  go_enter Tryd.func50, Tryd.ntmps50
  go_wp2_with fail
  go_loopw [5, 6] (fun _ _ w' => ∃ pos : Nat, w' = w.iter s pos ∧ pos % 2 = 0) (fun _ _ w' => s.size - w'.iterPos w.heap.size)
  case atStart => exact ⟨0, rfl, rfl⟩
  case round =>
    obtain ⟨pos, rfl, hp2⟩ := hrel
    by_cases hp : pos < s.size
    · obtain ⟨d1, d2⟩ := hG pos hp hp2
      have d3 : (((Utf8.decode s pos).1 : Int) == 65533) = false := by
        rw [beq_eq_false_iff_ne]; omega
      have hnx : ∀ ty, (Instr.next (.pointer (some ⟨w.heap.size, 0, none⟩)) true ty).run Tryd.prog (w.iter s pos) = _ := fun ty => run_next_any w s pos ty hp
      go_wp2
      go_roundw
      case rel => exact ⟨pos + 2, rfl, by omega⟩
      case measure => simp; omega
    · have hnx : ∀ ty, (Instr.next (.pointer (some ⟨w.heap.size, 0, none⟩)) true ty).run Tryd.prog (w.iter s pos) = _ := fun ty => run_next_end w s pos ty hp
      go_wp2
      go_ret
      exact ⟨rfl, (Below.refl _ _).alloc (Nat.le_refl _) _⟩

set_option maxHeartbeats 4000000 in
set_option maxRecDepth 1000000 in
theorem index_bad (s : ByteArray) (r : Int) (w : World) (h1 : 128 ≤ r) (hv : Utf8.valid r = false) (hr : r ≠ 65533) :
    Calls Tryd.prog 50 #[.string s, .int .i32 r] w fun e w' => e = .returned (.int .i64 (-1)) ∧ Below w.heap.size w w' := by
  have e1 : decide ((0 : Int) ≤ r) = true := by simp; omega
  have e2 : decide (r < (128 : Int)) = false := by simp; omega
  have e3 : (r == (65533 : Int)) = false := by simp; omega
  have e4 : Lib.validRune r = false := by
    simp only [Utf8.valid, Bool.or_eq_false_iff, Bool.and_eq_false_iff, decide_eq_false_iff_not] at hv
    simp [Lib.validRune]; omega
  go_enter Tryd.func50, Tryd.ntmps50
  go_wp2_with (go_at_call 56; refine (Tryd.utf8_ValidRune _ _).mono ?_; rintro e w' ⟨rfl, hw⟩; rw [hw]; clear hw)
  go_ret
  exact ⟨rfl, Below.refl _ _⟩

/-- A string of characters of two bytes in which no last byte stands often. -/
structure Good (s : ByteArray) : Prop where
  size : s.size < 4611686018427387904
  two : ∀ p, p < s.size → p % 2 = 0 → (Utf8.decode s p).2 = 2 ∧ (Utf8.decode s p).1 ≠ 65533
  few : ∀ (b : UInt8) i, 128 ≤ b.toNat → b.toNat < 192 → i ≤ s.size → cnt s.data.toList b i ≤ (i + 16) / 8

/-- What strings.IndexRune answers. -/
def idx (s : ByteArray) (r : Int) : Int :=
  if r < 128 then Lib.indexByte s.data.toList r.toNat.toUInt8 else if r = 65533 ∨ Utf8.valid r = false then -1 else Lib.index s.data.toList (Utf8.encode r).data.toList

theorem encode_two (r : Int) (h1 : 128 ≤ r) (h2 : r < 65536) (hv : Utf8.valid r = true) : ∃ (m : Nat) (_ : 1 ≤ m) (_ : m ≤ 2) (hs : (Utf8.encode r).size = m + 1) (b : UInt8), (Utf8.encode r)[m]'(by omega) = b ∧ 128 ≤ b.toNat ∧ b.toNat < 192 := by
  have hc : ¬ r.toNat < 128 := by omega
  have hc3 : r.toNat < 65536 := by omega
  unfold Utf8.encode
  simp only [hv, if_true, hc, if_false]
  by_cases h : r.toNat < 2048
  · simp only [h, if_true]
    refine ⟨1, by omega, by omega, rfl, _, rfl, ?_⟩
    show 128 ≤ (UInt8.ofNat (128 + r.toNat % 64)).toNat ∧ (UInt8.ofNat (128 + r.toNat % 64)).toNat < 192
    simp; omega
  · simp only [h, if_false, hc3, if_true]
    refine ⟨2, by omega, by omega, rfl, _, rfl, ?_⟩
    show 128 ≤ (UInt8.ofNat (128 + r.toNat % 64)).toNat ∧ (UInt8.ofNat (128 + r.toNat % 64)).toNat < 192
    simp; omega

theorem index_any (s : ByteArray) (hs : Good s) (r : Int) (h0 : 0 ≤ r) (h1 : r < 65536) (w : World) :
    Calls Tryd.prog 50 #[.string s, .int .i32 r] w fun e w' => e = .returned (.int .i64 (idx s r)) ∧ Below w.heap.size w w' := by
  unfold idx
  by_cases h128 : r < 128
  · rw [if_pos h128]
    refine (Tryd.strings_IndexRune_ascii s r w h0 h128).mono ?_
    rintro e w' ⟨rfl, rfl⟩
    exact ⟨rfl, Below.refl _ _⟩
  · rw [if_neg h128]
    by_cases he : r = 65533
    · rw [if_pos (.inl he), he]
      exact index_err s w hs.two
    · by_cases hv : Utf8.valid r = false
      · rw [if_pos (.inr hv)]
        exact index_bad s r w (by omega) hv he
      · rw [if_neg (by intro h; rcases h with h | h; exact he h; exact hv h)]
        have hv' : Utf8.valid r = true := by simpa using hv
        obtain ⟨m, hm1, hm2, hsz, b, g1, hb, hb2⟩ := encode_two r (by omega) h1 hv'
        refine (index_some s r w (by omega) h1 hv' he (Utf8.encode r) rfl m hm1 hm2 hsz b g1 hs.size (fun i hi => hs.few b i hb hb2 hi)).mono ?_
        rintro e w' ⟨rfl, hd⟩
        exact ⟨rfl, hd.below⟩

set_option maxHeartbeats 4000000 in
set_option maxRecDepth 1000000 in
theorem contains_any (s : ByteArray) (hs : Good s) (r : Int) (h0 : 0 ≤ r) (h1 : r < 65536) (w : World) :
    Calls Tryd.prog 39 #[.string s, .int .i32 r] w fun e w' => e = .returned (.bool (decide (0 ≤ idx s r))) ∧ Below w.heap.size w w' := by
  obtain ⟨q, hq⟩ : ∃ q, idx s r = q := ⟨_, rfl⟩
  have C := index_any s hs r h0 h1 w
  rw [hq] at C ⊢
  go_enter Tryd.func39, Tryd.ntmps39
  go_wp2_with (go_at_call 50; refine C.mono ?_; rintro e w' ⟨rfl, hb⟩)
  go_ret
  exact ⟨rfl, hb⟩
end Go.Proofs.YtmmakaheagjpkaaDoor.Rune
