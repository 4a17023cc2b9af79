/-
  A printed filter is read again: plain law on lists of bytes. Conditions: names that begin with a letter, then letters and digits; numbers of at most ten digits; texts of printable bytes.
-/
import Derived.Test.YthaapijjjgkacaaDoorNumText
import Derived.Test.YthaapijjjgkacaaDoorPrint
set_option linter.unusedSimpArgs false
set_option linter.unusedVariables false
namespace Go.Proofs.YthaapijjjgkacaaDoor.Mine
open Go.Proofs.YthaapijjjgkacaaDoor.PFilterReads Go.Lib
def isName : List UInt8 → Bool
  | [] => false
  | c :: r => isL c && r.all isA
def isChar (c : UInt8) : Bool := decide (32 ≤ c ∧ c ≤ 126)
def frP (p : S46) : Pr := ⟨p.f0.data.toList, p.f1, p.f2, p.f3, p.f4.data.toList⟩
theorem toP_frP (p : S46) : toP (frP p) = p := by
  cases p
  simp [toP, frP]
def okPr (p : S46) : Prop := isName p.f0.data.toList = true ∧ ((p.f1 = 1 ∧ (-9999999999 ≤ p.f2 ∧ p.f2 ≤ 9999999999 ∧ -9999999999 ≤ p.f3 ∧ p.f3 ≤ 9999999999) ∧ p.f4.data.toList = []) ∨ ((p.f1 = 2 ∨ p.f1 = 3) ∧ p.f2 = 0 ∧ p.f3 = 0 ∧ p.f4.data.toList.all isChar = true))
theorem tw_all (p : UInt8 → Bool) (r t : List UInt8) (h : r.all p = true) (h32 : p 32 = false) : (r ++ 32 :: t).takeWhile p = r ∧ (r ++ 32 :: t).dropWhile p = 32 :: t := by
  induction r with
  | nil => simp [List.takeWhile_cons, List.dropWhile_cons, h32]
  | cons c r ih =>
    simp only [List.all_cons, Bool.and_eq_true] at h
    obtain ⟨h1, h2⟩ := ih h.2
    simp [List.takeWhile_cons, List.dropWhile_cons, h.1, h1, h2]
theorem word_name (nm t : List UInt8) (h : isName nm = true) : wordS ⟨nm ++ 32 :: t, none⟩ = (nm, ⟨32 :: t, none⟩) := by
  cases nm with
  | nil => cases h
  | cons c r =>
    simp only [isName, Bool.and_eq_true] at h
    have hc : c ≠ 32 := by
      rintro rfl
      have := h.1
      revert this
      decide
    obtain ⟨h1, h2⟩ := tw_all isA r t h.2 (by decide)
    show wordL (skip (c :: (r ++ 32 :: t))) = _
    have e : skip (c :: (r ++ 32 :: t)) = c :: (r ++ 32 :: t) := by simp [skip, hc]
    rw [e]
    simp only [wordL, h.1, if_true, h1, h2]
theorem textL_quote (s acc : List UInt8) (h : s.all isChar = true) : textL (quoteL s ++ [34]) acc = (some (acc ++ s), []) := by
  induction s generalizing acc with
  | nil => rw [List.append_nil]; exact textL_q _ _ rfl
  | cons c r ih =>
    simp only [List.all_cons, Bool.and_eq_true] at h
    have e : quoteL (c :: r) = (if c = 34 ∨ c = 92 then [92, c] else [c]) ++ quoteL r := rfl
    by_cases hc : c = 34 ∨ c = 92
    · rw [e, if_pos hc]
      show textL (92 :: c :: (quoteL r ++ [34])) acc = _
      rw [textL_b1 _ _ rfl hc, ih _ h.2]
      simp
    · rw [e, if_neg hc]
      show textL (c :: (quoteL r ++ [34])) acc = _
      have h1 := h.1
      simp only [isChar, decide_eq_true_eq] at h1
      rw [textL_p _ _ (fun e => hc (Or.inl e)) (fun e => hc (Or.inr e)) h1, ih _ h.2]
      simp
theorem textS_quote (s : List UInt8) (h : s.all isChar = true) : textS ⟨32 :: 34 :: (quoteL s ++ [34]), none⟩ = (s, ⟨[], none⟩) := by
  have e : markS [34] ⟨32 :: 34 :: (quoteL s ++ [34]), none⟩ = ⟨quoteL s ++ [34], none⟩ := by
    show markL [34] (skip (32 :: 34 :: (quoteL s ++ [34]))) = _
    simp [skip, markL]
  unfold textS
  rw [e]
  simp only []
  rw [textL_quote _ _ h]
  rfl
theorem back_predS (p : S46) (h : okPr p) : predS ⟨predL p, none⟩ = (frP p, ⟨[], none⟩) := by
  obtain ⟨hn, h⟩ := h
  rcases h with ⟨h1, ⟨l1, l2, l3, l4⟩, h4⟩ | ⟨h1, h2, h3, h4⟩
  · have et : predL p = p.f0.data.toList ++ 32 :: 105 :: 110 :: 32 :: (itoa p.f2 ++ (46 :: 46 :: itoa p.f3)) := by simp [predL, h1]
    have ew : wordS ⟨predL p, none⟩ = (p.f0.data.toList, ⟨32 :: 105 :: 110 :: 32 :: (itoa p.f2 ++ (46 :: 46 :: itoa p.f3)), none⟩) := by
      rw [et]
      exact word_name _ _ hn
    have eb : blanksS ⟨32 :: 105 :: 110 :: 32 :: (itoa p.f2 ++ (46 :: 46 :: itoa p.f3)), none⟩ = ⟨105 :: 110 :: 32 :: (itoa p.f2 ++ (46 :: 46 :: itoa p.f3)), none⟩ := by simp [blanksS, skip]
    have ew2 : wordS ⟨105 :: 110 :: 32 :: (itoa p.f2 ++ (46 :: 46 :: itoa p.f3)), none⟩ = ([105, 110], ⟨32 :: (itoa p.f2 ++ (46 :: 46 :: itoa p.f3)), none⟩) := by
      simp [wordS, skip, wordL, isL, isA, isD, List.takeWhile_cons, List.dropWhile_cons]
    have en : numberS ⟨32 :: (itoa p.f2 ++ (46 :: 46 :: itoa p.f3)), none⟩ = (p.f2, ⟨46 :: 46 :: itoa p.f3, none⟩) := by
      rw [numberS_blank, numberS_itoa p.f2 _ (noD_dots _) l1 l2]
    have eh : numberS ⟨itoa p.f3, none⟩ = (p.f3, ⟨[], none⟩) := by
      have := numberS_itoa p.f3 [] rfl l3 l4
      rwa [List.append_nil] at this
    unfold predS
    rw [ew]
    simp only [eb]
    rw [if_neg (by simp), if_neg (by simp)]
    unfold inS
    rw [ew2]
    simp only [if_true, en, marks_dots, eh]
    unfold frP
    rw [h1, h4]
  · have hs := textS_quote _ h4
    rcases h1 with h1 | h1
    · have et : predL p = p.f0.data.toList ++ 32 :: 61 :: 32 :: 34 :: (quoteL p.f4.data.toList ++ [34]) := by simp [predL, quotedL, h1]
      have ew : wordS ⟨predL p, none⟩ = (p.f0.data.toList, ⟨32 :: 61 :: 32 :: 34 :: (quoteL p.f4.data.toList ++ [34]), none⟩) := by
        rw [et]
        exact word_name _ _ hn
      have eb : blanksS ⟨32 :: 61 :: 32 :: 34 :: (quoteL p.f4.data.toList ++ [34]), none⟩ = ⟨61 :: 32 :: 34 :: (quoteL p.f4.data.toList ++ [34]), none⟩ := by simp [blanksS, skip]
      have em : markS [61] ⟨61 :: 32 :: 34 :: (quoteL p.f4.data.toList ++ [34]), none⟩ = ⟨32 :: 34 :: (quoteL p.f4.data.toList ++ [34]), none⟩ := by
        show markL [61] (skip _) = _
        simp [skip, markL]
      unfold predS
      rw [ew]
      simp only [eb]
      rw [if_pos (by simp)]
      simp only [em, hs]
      unfold frP
      rw [h1, h2, h3]
    · have et : predL p = p.f0.data.toList ++ 32 :: 94 :: 61 :: 32 :: 34 :: (quoteL p.f4.data.toList ++ [34]) := by simp [predL, quotedL, h1]
      have ew : wordS ⟨predL p, none⟩ = (p.f0.data.toList, ⟨32 :: 94 :: 61 :: 32 :: 34 :: (quoteL p.f4.data.toList ++ [34]), none⟩) := by
        rw [et]
        exact word_name _ _ hn
      have eb : blanksS ⟨32 :: 94 :: 61 :: 32 :: 34 :: (quoteL p.f4.data.toList ++ [34]), none⟩ = ⟨94 :: 61 :: 32 :: 34 :: (quoteL p.f4.data.toList ++ [34]), none⟩ := by simp [blanksS, skip]
      have em : markS [94, 61] ⟨94 :: 61 :: 32 :: 34 :: (quoteL p.f4.data.toList ++ [34]), none⟩ = ⟨32 :: 34 :: (quoteL p.f4.data.toList ++ [34]), none⟩ := by
        show markL [94, 61] (skip _) = _
        simp [skip, markL]
      unfold predS
      rw [ew]
      simp only [eb]
      rw [if_neg (by simp), if_pos (by simp)]
      simp only [em, hs]
      unfold frP
      rw [h1, h2, h3]
theorem back_PS1 (p : S46) (h : okPr p) : PS (predL p) [] = .inl [frP p] := by
  rw [PS_eq, back_predS p h]
  rfl
theorem getD_take_snoc (L : List S46) (i : Nat) (h : i < L.length) : (L.take (i + 1)).map frP = (L.take i).map frP ++ [frP (L.getD i z46)] := by
  rw [List.take_succ_eq_append_getElem h, List.map_append, List.getD_eq_getElem?_getD, List.getElem?_eq_getElem h]
  rfl
theorem back_PS (L : List S46) (h : ∀ p ∈ L, okPr p) : ∀ i, i < L.length → PS (printN L (i + 1)) [] = .inl ((L.take (i + 1)).map frP) := by
  intro i
  induction i with
  | zero =>
    intro hi
    have hp : okPr (L.getD 0 z46) := by
      rw [List.getD_eq_getElem?_getD, List.getElem?_eq_getElem hi]
      exact h _ (List.getElem_mem hi)
    have e : printN L (0 + 1) = predL (L.getD 0 z46) := by
      show [] ++ pstep 0 (L.getD 0 z46) = _
      simp [pstep]
    rw [e, back_PS1 _ hp, getD_take_snoc L 0 hi]
    rfl
  | succ i ih =>
    intro hi
    have hp : okPr (L.getD (i + 1) z46) := by
      rw [List.getD_eq_getElem?_getD, List.getElem?_eq_getElem hi]
      exact h _ (List.getElem_mem hi)
    have e : printN L (i + 1 + 1) = printN L (i + 1) ++ 32 :: (97 :: 110 :: 100 :: 32 :: predL (L.getD (i + 1) z46)) := by
      show printN L (i + 1) ++ pstep (i + 1) (L.getD (i + 1) z46) = _
      simp [pstep]
    have h4 := PS_acc _ (predL (L.getD (i + 1) z46)) ((L.take (i + 1)).map frP) [] (Nat.le_refl _)
    rw [List.append_nil, back_PS1 _ hp] at h4
    rw [e, PS_ext _ _ _ _ _ (Nat.le_refl _) (ih (by omega)), tailS_and, PS_blank, h4, getD_take_snoc L (i + 1) hi]
theorem back_plain (s : ByteArray) (L : List S46) (h : ∀ p ∈ L, okPr p) (h1 : 1 ≤ L.length) (hs : s.data.toList = printN L L.length) (hz : s.size ≤ 300) : parseR s = .inl (L.map frP) := by
  obtain ⟨i, hi⟩ : ∃ i, L.length = i + 1 := ⟨L.length - 1, by omega⟩
  have hb : bytes s = printN L (i + 1) := by rw [← hi]; exact hs
  have := back_PS L h i (by omega)
  rw [← hi, List.take_length] at this
  rw [parseR_PS hz, hb, ← hi, this]
theorem toP_map (L : List S46) : (L.map frP).map toP = L := by
  rw [List.map_map]
  have : toP ∘ frP = id := funext fun p => toP_frP p
  rw [this, List.map_id]
end Go.Proofs.YthaapijjjgkacaaDoor.Mine
