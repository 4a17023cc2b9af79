/-
  A number's text is read back; a text between quotes is read back.
-/
import Derived.Test.YthaapijjjgkacaaDoorPlain4
import Derived.Test.YthaapijjjgkacaaDoorPlaces
import Derived.Lib.ItoaMem
set_option linter.unusedSimpArgs false
set_option linter.unusedVariables false
namespace Go.Proofs.YthaapijjjgkacaaDoor.Mine
open Go.Lib
theorem dg_is (d : Nat) (h : d < 10) : isD (UInt8.ofNat (48 + d)) = true ∧ (UInt8.ofNat (48 + d)).toNat = 48 + d := by
  have h2 : (UInt8.ofNat (48 + d)).toNat = 48 + d := by
    show (48 + d) % 256 = 48 + d
    omega
  refine ⟨?_, h2⟩
  unfold isD
  rw [decide_eq_true_eq, UInt8.le_iff_toNat_le, UInt8.le_iff_toNat_le, h2]
  exact ⟨by show 48 ≤ 48 + d; omega, by show 48 + d ≤ 57; omega⟩
theorem dec_lo {u : Nat} (h : u < 10) : decDigits u = [UInt8.ofNat (48 + u)] := by rw [decDigits, dif_pos h]
theorem dec_hi {u : Nat} (h : ¬ u < 10) : decDigits u = decDigits (u / 10) ++ [UInt8.ofNat (48 + u % 10)] := by rw [decDigits, dif_neg h]
theorem dec_all (u : Nat) : ∀ c ∈ decDigits u, isD c = true := by
  induction u using Nat.strongRecOn with
  | ind u ih =>
    by_cases h : u < 10
    · rw [dec_lo h]
      intro c hc
      rw [List.mem_singleton.mp hc]
      exact (dg_is u h).1
    · rw [dec_hi h]
      intro c hc
      rcases List.mem_append.mp hc with hc | hc
      · exact ih (u / 10) (by omega) c hc
      · rw [List.mem_singleton.mp hc]
        exact (dg_is (u % 10) (by omega)).1
theorem valD_snoc' (l : List UInt8) (c : UInt8) : valD (l ++ [c]) = 10 * valD l + ((c.toNat : Int) - 48) := by simp [valD]
theorem dec_val (u : Nat) : valD (decDigits u) = (u : Int) := by
  induction u using Nat.strongRecOn with
  | ind u ih =>
    by_cases h : u < 10
    · rw [dec_lo h]
      show 10 * 0 + (((UInt8.ofNat (48 + u)).toNat : Int) - 48) = u
      rw [(dg_is u h).2]
      omega
    · rw [dec_hi h, valD_snoc', ih (u / 10) (by omega), (dg_is (u % 10) (by omega)).2]
      omega
theorem dec_len : ∀ (k u : Nat), u < 10 ^ (k + 1) → (decDigits u).length ≤ k + 1
  | 0, u, h => by rw [dec_lo (by simpa using h)]; simp
  | k + 1, u, h => by
    by_cases h9 : u < 10
    · rw [dec_lo h9]; simp
    · have := dec_len k (u / 10) (by rw [Nat.div_lt_iff_lt_mul (by omega)]; rw [Nat.pow_succ] at h; exact h)
      rw [dec_hi h9, List.length_append]
      simp
      omega
theorem head_app {l t : List UInt8} (h : l ≠ []) : (l ++ t).head? = l.head? := by
  cases l with
  | nil => exact absurd rfl h
  | cons c r => rfl
theorem dec_ne (u : Nat) : decDigits u ≠ [] := by
  by_cases h : u < 10
  · rw [dec_lo h]; simp
  · rw [dec_hi h]; simp
theorem dec_head (u : Nat) (hu : 1 ≤ u) : (decDigits u).head? ≠ some 48 := by
  induction u using Nat.strongRecOn with
  | ind u ih =>
    by_cases h : u < 10
    · rw [dec_lo h]
      intro e
      have e2 : UInt8.ofNat (48 + u) = 48 := by simpa using e
      have := (dg_is u h).2
      rw [e2] at this
      have h48 : (48 : UInt8).toNat = 48 := rfl
      omega
    · rw [dec_hi h, head_app (dec_ne _)]
      exact ih (u / 10) (by omega) (by omega)
/-- What stands behind a number's text begins with no digit. -/
def noD (t : List UInt8) : Prop := t.takeWhile isD = []
theorem tw_dec (u : Nat) (t : List UInt8) (ht : noD t) : (decDigits u ++ t).takeWhile isD = decDigits u ∧ (decDigits u ++ t).dropWhile isD = t := by
  have hd : t.dropWhile isD = t := by
    have := List.takeWhile_append_dropWhile (p := isD) (l := t)
    rw [ht, List.nil_append] at this
    exact this
  constructor
  · rw [List.takeWhile_append_of_pos (dec_all u), ht, List.append_nil]
  · rw [List.dropWhile_append_of_pos (dec_all u), hd]
theorem numD_dec (f u : Nat) (sg : Int) (t : List UInt8) (ht : noD t) (hu : u ≤ 9999999999) (hs : sg < 0 → 1 ≤ u) : numD f sg (decDigits u ++ t) = (sg * (u : Int), ⟨t, none⟩) := by
  obtain ⟨e1, e2⟩ := tw_dec u t ht
  have hl : (decDigits u).length ≤ 10 := dec_len 9 u (by omega)
  unfold numD
  rw [e1, e2, if_neg (by omega)]
  have hb : ¬ numBad sg (decDigits u ++ t) := by
    unfold numBad
    rw [e1]
    rintro (h | ⟨h, h2⟩ | ⟨h, h2⟩)
    · exact dec_ne u h
    · rw [head_app (dec_ne u)] at h2
      by_cases hu1 : 1 ≤ u
      · exact dec_head u hu1 h2
      · rw [dec_lo (by omega)] at h
        simp at h
    · rw [dec_val] at h2
      have := hs h
      omega
  rw [if_neg hb, dec_val]
theorem dec_cons (u : Nat) : ∃ c r, decDigits u = c :: r ∧ c ≠ 45 ∧ c ≠ 32 := by
  cases h : decDigits u with
  | nil => exact absurd h (dec_ne u)
  | cons c r =>
    have hc := dec_all u c (by rw [h]; simp)
    refine ⟨c, r, rfl, ?_, ?_⟩
    · rintro rfl; simp [isD] at hc
    · rintro rfl; simp [isD] at hc
theorem numberS_itoa (n : Int) (t : List UInt8) (ht : noD t) (h1 : -9999999999 ≤ n) (h2 : n ≤ 9999999999) : numberS ⟨itoa n ++ t, none⟩ = (n, ⟨t, none⟩) := by
  show numL (skip (itoa n ++ t)) = _
  by_cases hn : n < 0
  · obtain ⟨u, rfl⟩ : ∃ u : Nat, n = -(u : Int) := ⟨n.natAbs, by omega⟩
    rw [itoa_neg u (by omega), List.cons_append]
    have e : skip (45 :: (decDigits u ++ t)) = 45 :: (decDigits u ++ t) := by simp [skip]
    rw [e]
    simp only [numL, if_true]
    rw [numD_dec _ u (-1) t ht (by omega) (by omega)]
    simp
  · obtain ⟨u, rfl⟩ : ∃ u : Nat, n = (u : Int) := ⟨n.natAbs, by omega⟩
    rw [itoa_nonneg u]
    obtain ⟨c, r, e, hc, hc2⟩ := dec_cons u
    have e1 : skip (decDigits u ++ t) = decDigits u ++ t := by rw [e, List.cons_append]; simp [skip, hc2]
    rw [e1]
    have e2 : numL (decDigits u ++ t) = numD ((r ++ t).length + 1) 1 (decDigits u ++ t) := by
      rw [e, List.cons_append]
      simp only [numL, if_neg hc]
    rw [e2, numD_dec _ u 1 t ht (by omega) (by omega)]
    simp
theorem noD_dots (t : List UInt8) : noD (46 :: t) := by simp [noD, isD]
theorem numberS_blank (l : List UInt8) : numberS ⟨32 :: l, none⟩ = numberS ⟨l, none⟩ := by
  show numL (skip (32 :: l)) = numL (skip l)
  simp [skip]
theorem skip_itoa (n : Int) (t : List UInt8) : skip (itoa n ++ t) = itoa n ++ t := by
  unfold itoa
  by_cases hn : n < 0
  · rw [if_pos hn, List.cons_append]
    simp [skip]
  · rw [if_neg hn]
    obtain ⟨c, r, e, hc, hc2⟩ := dec_cons n.toNat
    rw [e, List.cons_append]
    simp [skip, hc2]
theorem marks_dots (n : Int) : markS [46, 46] ⟨46 :: 46 :: itoa n, none⟩ = ⟨itoa n, none⟩ := by
  show markL [46, 46] (skip (46 :: 46 :: itoa n)) = _
  have e : skip (46 :: 46 :: itoa n) = 46 :: 46 :: itoa n := by simp [skip]
  rw [e]
  simp [markL]
def inText (lo hi : Int) : List UInt8 := [110] ++ [32, 105, 110, 32] ++ itoa lo ++ [46, 46] ++ itoa hi
theorem numbers_predS (lo hi : Int) (h1 : -9999999999 ≤ lo) (h2 : lo ≤ 9999999999) (h3 : -9999999999 ≤ hi) (h4 : hi ≤ 9999999999) :
    predS ⟨inText lo hi, none⟩ = (⟨[110], 1, lo, hi, []⟩, ⟨[], none⟩) := by
  have et : inText lo hi = 110 :: 32 :: 105 :: 110 :: 32 :: (itoa lo ++ (46 :: 46 :: itoa hi)) := by simp [inText]
  have ew : wordS ⟨inText lo hi, none⟩ = ([110], ⟨32 :: 105 :: 110 :: 32 :: (itoa lo ++ (46 :: 46 :: itoa hi)), none⟩) := by
    rw [et]
    simp [wordS, skip, wordL, isL, isA, isD, List.takeWhile_cons, List.dropWhile_cons]
  have eb : blanksS ⟨32 :: 105 :: 110 :: 32 :: (itoa lo ++ (46 :: 46 :: itoa hi)), none⟩ = ⟨105 :: 110 :: 32 :: (itoa lo ++ (46 :: 46 :: itoa hi)), none⟩ := by simp [blanksS, skip]
  have ew2 : wordS ⟨105 :: 110 :: 32 :: (itoa lo ++ (46 :: 46 :: itoa hi)), none⟩ = ([105, 110], ⟨32 :: (itoa lo ++ (46 :: 46 :: itoa hi)), none⟩) := by
    simp [wordS, skip, wordL, isL, isA, isD, List.takeWhile_cons, List.dropWhile_cons]
  have en : numberS ⟨32 :: (itoa lo ++ (46 :: 46 :: itoa hi)), none⟩ = (lo, ⟨46 :: 46 :: itoa hi, none⟩) := by
    rw [numberS_blank, numberS_itoa lo _ (noD_dots _) h1 h2]
  have eh : numberS ⟨itoa hi, none⟩ = (hi, ⟨[], none⟩) := by
    have := numberS_itoa hi [] rfl h3 h4
    rwa [List.append_nil] at this
  unfold predS
  rw [ew]
  simp only [eb]
  rw [if_neg (by simp), if_neg (by simp)]
  unfold inS
  rw [ew2]
  simp only [if_true, en, marks_dots, eh]
theorem numbers_plain (s : ByteArray) (lo hi : Int) (hs : s.data.toList = inText lo hi) (hz : s.size ≤ 300) (h1 : -9999999999 ≤ lo) (h2 : lo ≤ 9999999999) (h3 : -9999999999 ≤ hi) (h4 : hi ≤ 9999999999) :
    parseR s = .inl [⟨[110], 1, lo, hi, []⟩] := by
  have hb : bytes s = inText lo hi := hs
  rw [parseR_PS hz, hb, PS_eq, numbers_predS lo hi h1 h2 h3 h4]
  rfl
end Go.Proofs.YthaapijjjgkacaaDoor.Mine
