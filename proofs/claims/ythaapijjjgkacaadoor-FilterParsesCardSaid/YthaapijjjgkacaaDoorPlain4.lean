/-
  The filter parser as plain functions: texts joined by 'and', blanks ahead and behind, something else behind.
-/
import Derived.Test.YthaapijjjgkacaaDoorPlain3
set_option linter.unusedSimpArgs false
set_option linter.unusedVariables false
namespace Go.Proofs.YthaapijjjgkacaaDoor.Mine

theorem inS_good {nm : List UInt8} {st : St} (h : (inS nm st).2.bad = none) : st.bad = none := by
  have h0 : (numberS (markS [46, 46] (numberS (if (wordS st).1 = [105, 110] then (wordS st).2 else stopS (wordS st).2 st.l.length)).2)).2.bad = none := h
  have h3 := numberS_good (markS_good (numberS_good h0))
  split at h3
  · exact wordS_good h3
  · exact (stopS_none h3).elim
theorem predS_ext {l : List UInt8} (t : List UInt8) (h : (predS ⟨l, none⟩).2.bad = none) : predS ⟨l ++ 32 :: t, none⟩ = ((predS ⟨l, none⟩).1, ⟨(predS ⟨l, none⟩).2.l ++ 32 :: t, none⟩) := by
  have hp : ∀ l, predS ⟨l, none⟩ = (if (blanksS (wordS ⟨l, none⟩).2).l.head? = some 61 then
      (⟨(wordS ⟨l, none⟩).1, 2, 0, 0, (textS (markS [61] (blanksS (wordS ⟨l, none⟩).2))).1⟩, (textS (markS [61] (blanksS (wordS ⟨l, none⟩).2))).2)
    else if (blanksS (wordS ⟨l, none⟩).2).l.head? = some 94 then
      (⟨(wordS ⟨l, none⟩).1, 3, 0, 0, (textS (markS [94, 61] (blanksS (wordS ⟨l, none⟩).2))).1⟩, (textS (markS [94, 61] (blanksS (wordS ⟨l, none⟩).2))).2)
    else inS (wordS ⟨l, none⟩).1 (blanksS (wordS ⟨l, none⟩).2)) := fun _ => rfl
  have hw : (wordS ⟨l, none⟩).2.bad = none := by
    rw [hp] at h
    split at h
    · exact blanksS_good (markS_good (textS_good h))
    · split at h
      · exact blanksS_good (markS_good (textS_good h))
      · exact blanksS_good (inS_good h)
  cases ew : wordS ⟨l, none⟩ with
  | mk w a =>
    rw [ew] at hw
    simp only at hw
    rw [good_eta hw] at ew
    have ex := wordS_ext t ew
    rw [hp, hp, ex]
    rw [hp] at h
    rw [ew] at h ⊢
    simp only at h ⊢
    have hb : blanksS ⟨a.l, none⟩ = ⟨skip a.l, none⟩ := rfl
    have hbx : blanksS ⟨a.l ++ 32 :: t, none⟩ = ⟨skip (a.l ++ 32 :: t), none⟩ := rfl
    rw [hb, hbx]
    rw [hb] at h
    simp only at h ⊢
    -- what stands behind the name isn't blank alone
    have hne : skip a.l ≠ [] := by
      intro e
      rw [e] at h
      rw [if_neg (show ¬ ([] : List UInt8).head? = some 61 by simp), if_neg (show ¬ ([] : List UInt8).head? = some 94 by simp)] at h
      have h0 : (numberS (markS [46, 46] (numberS (if (wordS ⟨[], none⟩).1 = [105, 110] then (wordS ⟨[], none⟩).2 else stopS (wordS ⟨[], none⟩).2 ([] : List UInt8).length)).2)).2.bad = none := h
      have h3 := numberS_good (markS_good (numberS_good h0))
      rw [if_neg (by simp [wordS, skip, wordL])] at h3
      exact stopS_none h3
    rw [skip_ext _ hne]
    obtain ⟨c, r, hcr⟩ : ∃ c r, skip a.l = c :: r := by
      cases hs : skip a.l with
      | nil => exact absurd hs hne
      | cons c r => exact ⟨c, r, rfl⟩
    rw [hcr] at h ⊢
    by_cases h61 : c = 61
    · rw [if_pos (show (c :: r).head? = some 61 by simp [h61])] at h
      rw [if_pos (show (c :: r ++ 32 :: t).head? = some 61 by simp [h61]), if_pos (show (c :: r).head? = some 61 by simp [h61])]
      have hm := good_eta (textS_good h)
      rw [markS_ext (32 :: t) (by simp) hm]
      rw [hm] at h ⊢
      have ht : textS ⟨(markS [61] ⟨c :: r, none⟩).l, none⟩ = ((textS ⟨(markS [61] ⟨c :: r, none⟩).l, none⟩).1, ⟨(textS ⟨(markS [61] ⟨c :: r, none⟩).l, none⟩).2.l, none⟩) := Prod.ext rfl (good_eta h)
      rw [textS_ext (32 :: t) ht]
    · rw [if_neg (show ¬ (c :: r).head? = some 61 by simp [h61])] at h
      rw [if_neg (show ¬ (c :: r ++ 32 :: t).head? = some 61 by simp [h61]), if_neg (show ¬ (c :: r).head? = some 61 by simp [h61])]
      by_cases h94 : c = 94
      · rw [if_pos (show (c :: r).head? = some 94 by simp [h94])] at h
        rw [if_pos (show (c :: r ++ 32 :: t).head? = some 94 by simp [h94]), if_pos (show (c :: r).head? = some 94 by simp [h94])]
        have hm := good_eta (textS_good h)
        rw [markS_ext (32 :: t) (by simp) hm]
        rw [hm] at h ⊢
        have ht : textS ⟨(markS [94, 61] ⟨c :: r, none⟩).l, none⟩ = ((textS ⟨(markS [94, 61] ⟨c :: r, none⟩).l, none⟩).1, ⟨(textS ⟨(markS [94, 61] ⟨c :: r, none⟩).l, none⟩).2.l, none⟩) := Prod.ext rfl (good_eta h)
        rw [textS_ext (32 :: t) ht]
      · rw [if_neg (show ¬ (c :: r).head? = some 94 by simp [h94])] at h
        rw [if_neg (show ¬ (c :: r ++ 32 :: t).head? = some 94 by simp [h94]), if_neg (show ¬ (c :: r).head? = some 94 by simp [h94])]
        exact inS_ext t h

/-- What comes behind a filter's text: nothing, or 'and' and more. -/
def tailS (t : List UInt8) (acc : List Pr) : List Pr ⊕ Nat := if skip t = [] then .inl acc else PN (andS ⟨skip t, none⟩) acc
theorem andS_ext {l : List UInt8} (t : List UInt8) (h : (andS ⟨l, none⟩).bad = none) : andS ⟨l ++ 32 :: t, none⟩ = ⟨(andS ⟨l, none⟩).l ++ 32 :: t, none⟩ := by
  unfold andS at h ⊢
  by_cases hw : (wordS ⟨l, none⟩).1 = [97, 110, 100]
  · rw [if_pos hw] at h
    have hx : wordS ⟨l, none⟩ = ((wordS ⟨l, none⟩).1, ⟨(wordS ⟨l, none⟩).2.l, none⟩) := Prod.ext rfl (good_eta h)
    rw [wordS_ext t hx, if_pos hw, if_pos hw]
  · rw [if_neg hw] at h
    exact (stopS_none h).elim
theorem PS_ext (t : List UInt8) : ∀ (n : Nat) (l : List UInt8) (acc xs : List Pr), l.length ≤ n → PS l acc = .inl xs → PS (l ++ 32 :: t) acc = tailS t xs
  | n, l, acc, xs, hn, h => by
    rw [PS_eq] at h
    rw [PS_eq]
    cases hb : (blanksS (predS ⟨l, none⟩).2).bad with
    | some m => rw [hb] at h; cases h
    | none =>
      rw [hb] at h
      simp only at h
      have hg := blanksS_good hb
      rw [predS_ext t hg]
      have e1 : blanksS (predS ⟨l, none⟩).2 = ⟨skip (predS ⟨l, none⟩).2.l, none⟩ := by rw [good_eta hg]; rfl
      have hle : (predS ⟨l, none⟩).2.l.length ≤ l.length := predS_le (st := ⟨l, none⟩) rfl
      rw [e1] at h
      simp only at h
      have e2 : ∀ q : List UInt8, blanksS ⟨q, none⟩ = ⟨skip q, none⟩ := fun _ => rfl
      rw [e2]
      simp only
      by_cases hs : skip (predS ⟨l, none⟩).2.l = []
      · rw [if_pos hs] at h
        cases h
        rw [skip_ext0 _ hs]
        unfold tailS
        have e3 : skip (32 :: t) = skip t := by simp [skip]
        rw [e3]
      · rw [if_neg hs] at h
        rw [skip_ext _ hs, if_neg (by simp)]
        cases ha : (andS ⟨skip (predS ⟨l, none⟩).2.l, none⟩).bad with
        | some m => unfold PN at h; rw [ha] at h; cases h
        | none =>
          have hlt := andS_lt (st := ⟨skip (predS ⟨l, none⟩).2.l, none⟩) rfl ha
          have hle2 := (skip_suf (predS ⟨l, none⟩).2.l).length_le
          simp only at hlt
          have h4 : PS (andS ⟨skip (predS ⟨l, none⟩).2.l, none⟩).l (acc ++ [(predS ⟨l, none⟩).1]) = .inl xs := by
            have : PN (andS ⟨skip (predS ⟨l, none⟩).2.l, none⟩) (acc ++ [(predS ⟨l, none⟩).1]) = PS (andS ⟨skip (predS ⟨l, none⟩).2.l, none⟩).l (acc ++ [(predS ⟨l, none⟩).1]) := by unfold PN; rw [ha]
            rw [← this]; exact h
          rw [andS_ext t ha]
          match n with
          | 0 => omega
          | n + 1 => exact PS_ext t n _ _ _ (by omega) h4
/-- The predicates that were there stay ahead. -/
theorem PS_acc : ∀ (n : Nat) (l : List UInt8) (a acc : List Pr), l.length ≤ n → PS l (a ++ acc) = match PS l acc with | .inl xs => .inl (a ++ xs) | .inr m => .inr m
  | n, l, a, acc, hn => by
    rw [PS_eq, PS_eq]
    cases hb : (blanksS (predS ⟨l, none⟩).2).bad with
    | some m => rfl
    | none =>
      simp only
      by_cases hs : (blanksS (predS ⟨l, none⟩).2).l = []
      · rw [if_pos hs, if_pos hs]; simp
      · rw [if_neg hs, if_neg hs]
        unfold PN
        cases ha : (andS (blanksS (predS ⟨l, none⟩).2)).bad with
        | some m => rfl
        | none =>
          simp only
          have h1 := andS_lt hb ha
          have h2 := blanksS_le (predS ⟨l, none⟩).2
          have h3 : (predS ⟨l, none⟩).2.l.length ≤ l.length := predS_le (st := ⟨l, none⟩) rfl
          match n with
          | 0 => omega
          | n + 1 =>
            rw [List.append_assoc]
            exact PS_acc n _ a _ (by omega)
theorem PS_ne : ∀ (n : Nat) (l : List UInt8) (acc xs : List Pr), l.length ≤ n → PS l acc = .inl xs → xs ≠ []
  | n, l, acc, xs, hn, h => by
    rw [PS_eq] at h
    cases hb : (blanksS (predS ⟨l, none⟩).2).bad with
    | some m => rw [hb] at h; cases h
    | none =>
      rw [hb] at h
      simp only at h
      by_cases hs : (blanksS (predS ⟨l, none⟩).2).l = []
      · rw [if_pos hs] at h
        cases h
        simp
      · rw [if_neg hs] at h
        unfold PN at h
        cases ha : (andS (blanksS (predS ⟨l, none⟩).2)).bad with
        | some m => rw [ha] at h; cases h
        | none =>
          rw [ha] at h
          have h1 := andS_lt hb ha
          have h2 := blanksS_le (predS ⟨l, none⟩).2
          have h3 : (predS ⟨l, none⟩).2.l.length ≤ l.length := predS_le (st := ⟨l, none⟩) rfl
          match n with
          | 0 => omega
          | n + 1 => exact PS_ne n _ _ _ (by omega) h
theorem tailS_and (t : List UInt8) (acc : List Pr) : tailS (97 :: 110 :: 100 :: 32 :: t) acc = PS (32 :: t) acc := by
  unfold tailS
  have e1 : skip (97 :: 110 :: 100 :: 32 :: t) = 97 :: 110 :: 100 :: 32 :: t := by simp [skip]
  rw [e1, if_neg (by simp)]
  have e2 : wordS ⟨97 :: 110 :: 100 :: 32 :: t, none⟩ = ([97, 110, 100], ⟨32 :: t, none⟩) := by
    show wordL (skip (97 :: 110 :: 100 :: 32 :: t)) = _
    rw [e1]
    simp [wordL, isL, isA, isD, List.takeWhile_cons, List.dropWhile_cons]
  unfold andS PN
  rw [e2]
  rfl
/-- Blanks ahead change nothing. -/
theorem predS_blank (l : List UInt8) : predS ⟨32 :: l, none⟩ = predS ⟨l, none⟩ := by
  have h : wordS ⟨32 :: l, none⟩ = wordS ⟨l, none⟩ := by
    show wordL (skip (32 :: l)) = wordL (skip l)
    simp [skip]
  unfold predS
  rw [h]
theorem PS_blank (l : List UInt8) (acc : List Pr) : PS (32 :: l) acc = PS l acc := by rw [PS_eq, PS_eq, predS_blank]
end Go.Proofs.YthaapijjjgkacaaDoor.Mine
