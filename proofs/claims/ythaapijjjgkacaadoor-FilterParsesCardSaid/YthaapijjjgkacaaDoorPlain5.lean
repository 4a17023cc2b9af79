/-
  The filter parser as plain functions: blanks ahead and behind change nothing, be the text read or not; a byte behind a blank is no filter.
-/
import Derived.Test.YthaapijjjgkacaaDoorPlain4
set_option linter.unusedSimpArgs false
set_option linter.unusedVariables false
namespace Go.Proofs.YthaapijjjgkacaaDoor.Mine

theorem skip_back {l : List UInt8} (h : skip l = []) : skip (l ++ [32]) = [] := by rw [skip_ext0 _ h]; rfl
theorem wordS_back {l : List UInt8} (h : (wordS ⟨l ++ [32], none⟩).2.bad = none) : (wordS ⟨l, none⟩).2.bad = none := by
  change (wordL (skip (l ++ [32]))).2.bad = none at h
  show (wordL (skip l)).2.bad = none
  cases hs : skip l with
  | nil => rw [skip_back hs] at h; simp [wordL] at h
  | cons c r =>
    rw [skip_ext _ (by rw [hs]; simp), hs, List.cons_append] at h
    by_cases hc : isL c = true
    · simp only [wordL, if_pos hc]
    · simp [wordL, hc] at h
theorem markS_back {m l : List UInt8} (hm : m ≠ []) (h32 : (32 : UInt8) ∉ m) (h : (markS m ⟨l ++ [32], none⟩).bad = none) : (markS m ⟨l, none⟩).bad = none := by
  change (markL m (skip (l ++ [32]))).bad = none at h
  show (markL m (skip l)).bad = none
  by_cases hs : skip l = []
  · rw [skip_back hs] at h
    unfold markL at h
    cases m with
    | nil => exact absurd rfl hm
    | cons a b => simp at h
  · rw [skip_ext _ hs] at h
    unfold markL at h ⊢
    cases hp : m.isPrefixOf (skip l ++ [32]) with
    | false => rw [hp] at h; simp at h
    | true =>
      have h1 := List.isPrefixOf_iff_prefix.mp hp
      rcases List.prefix_concat_iff.mp h1 with h2 | h2
      · exact absurd (by rw [h2]; simp) h32
      · rw [List.isPrefixOf_iff_prefix.mpr h2, if_pos rfl]
theorem textL_back : ∀ (n : Nat) (l acc : List UInt8), l.length ≤ n → ∀ (s r : List UInt8), textL (l ++ [32]) acc = (some s, r) → ∃ r', textL l acc = (some s, r')
  | n, [], acc, _, s, r, h => by
    rw [List.nil_append, textL_p _ _ (by decide) (by decide) (by decide), textL_nil] at h
    simp at h
  | n, c :: r0, acc, hn, s, r, h => by
    rw [List.cons_append] at h
    by_cases h1 : c = 34
    · rw [textL_q _ _ h1] at h ⊢
      simp at h
      exact ⟨r0, by rw [h.1]⟩
    · match n with
      | 0 => simp at hn
      | n + 1 =>
        by_cases h2 : c = 92
        · match r0 with
          | [] =>
            rw [List.nil_append, textL_b2 _ _ h2 (by decide)] at h
            simp at h
          | d :: r' =>
            rw [List.cons_append] at h
            by_cases h3 : d = 34 ∨ d = 92
            · rw [textL_b1 _ _ h2 h3] at h ⊢
              exact textL_back n r' _ (by simp at hn; omega) s r h
            · rw [textL_b2 _ _ h2 h3] at h; simp at h
        · by_cases h3 : 32 ≤ c ∧ c ≤ 126
          · rw [textL_p _ _ h1 h2 h3] at h ⊢
            exact textL_back n r0 _ (by simp at hn; omega) s r h
          · rw [textL_n _ _ h1 h2 h3] at h; simp at h
theorem textS_mark {st : St} (h : (textS st).2.bad = none) : (markS [34] st).bad = none := by
  unfold textS at h
  cases hb : (markS [34] st).bad with
  | none => rfl
  | some n => rw [hb] at h; simp only at h; rw [hb] at h; cases h
theorem textS_back {l : List UInt8} (h : (textS ⟨l ++ [32], none⟩).2.bad = none) : (textS ⟨l, none⟩).2.bad = none := by
  have hm := textS_mark h
  have hm2 := markS_back (by simp) (by simp) hm
  have ex := markS_ext [32] (by simp) (good_eta hm2)
  unfold textS at h ⊢
  rw [ex] at h
  rw [hm2]
  simp only at h ⊢
  cases hx : textL ((markS [34] ⟨l, none⟩).l ++ [32]) [] with
  | mk o r1 =>
    rw [hx] at h
    cases o with
    | none => simp [textR] at h
    | some s =>
      obtain ⟨r', e⟩ := textL_back _ _ _ (Nat.le_refl _) s r1 hx
      rw [e]
      rfl
theorem numD_back {f f' : Nat} {sg : Int} {d : List UInt8} (h : (numD f' sg (d ++ [32])).2.bad = none) : (numD f sg d).2.bad = none := by
  obtain ⟨e1, e2⟩ := tw_ext isD d [] (by decide)
  unfold numD at h ⊢
  rw [e1, e2] at h
  by_cases h1 : 10 < (d.takeWhile isD).length
  · rw [if_pos h1] at h; simp at h
  · rw [if_neg h1] at h ⊢
    by_cases h2 : numBad sg (d ++ [32])
    · rw [if_pos h2] at h; simp at h
    · have h3 : ¬ numBad sg d := by
        intro hb
        apply h2
        unfold numBad at hb ⊢
        rw [e1]
        rcases hb with hb | hb | hb
        · exact Or.inl hb
        · refine Or.inr (Or.inl ⟨hb.1, ?_⟩)
          cases d with
          | nil => simp at hb
          | cons c d => simpa using hb.2
        · exact Or.inr (Or.inr hb)
      rw [if_neg h3]
theorem numberS_back {l : List UInt8} (h : (numberS ⟨l ++ [32], none⟩).2.bad = none) : (numberS ⟨l, none⟩).2.bad = none := by
  change (numL (skip (l ++ [32]))).2.bad = none at h
  show (numL (skip l)).2.bad = none
  cases hs : skip l with
  | nil => rw [skip_back hs] at h; simp [numL, numD, numBad] at h
  | cons c r =>
    rw [skip_ext _ (by rw [hs]; simp), hs, List.cons_append] at h
    by_cases hc : c = 45
    · simp only [numL, if_pos hc] at h ⊢
      exact numD_back h
    · simp only [numL, if_neg hc] at h ⊢
      rw [← List.cons_append] at h
      exact numD_back h
theorem inS_back {nm l : List UInt8} (h : (inS nm ⟨l ++ [32], none⟩).2.bad = none) : (inS nm ⟨l, none⟩).2.bad = none := by
  have h0 : (numberS (markS [46, 46] (numberS (if (wordS ⟨l ++ [32], none⟩).1 = [105, 110] then (wordS ⟨l ++ [32], none⟩).2 else stopS (wordS ⟨l ++ [32], none⟩).2 (l ++ [32]).length)).2)).2.bad = none := h
  have h1 := numberS_good h0
  have h2 := markS_good h1
  have h3 := numberS_good h2
  have hw : (wordS ⟨l ++ [32], none⟩).1 = [105, 110] := by
    by_cases hw : (wordS ⟨l ++ [32], none⟩).1 = [105, 110]
    · exact hw
    · rw [if_neg hw] at h3
      exact (stopS_none h3).elim
  rw [if_pos hw] at h0 h1 h2 h3
  have g3 := wordS_back h3
  have e3 : wordS ⟨l, none⟩ = ((wordS ⟨l, none⟩).1, ⟨(wordS ⟨l, none⟩).2.l, none⟩) := Prod.ext rfl (good_eta g3)
  have x3 := wordS_ext [] e3
  rw [x3] at h0 h1 h2 hw
  simp only at h0 h1 h2 hw
  have g2 := numberS_back h2
  have e2 : numberS ⟨(wordS ⟨l, none⟩).2.l, none⟩ = ((numberS ⟨(wordS ⟨l, none⟩).2.l, none⟩).1, ⟨(numberS ⟨(wordS ⟨l, none⟩).2.l, none⟩).2.l, none⟩) := Prod.ext rfl (good_eta g2)
  have x2 := numberS_ext [] e2
  rw [x2] at h0 h1
  simp only at h0 h1
  have g1 := markS_back (by simp) (by simp) h1
  have x1 := markS_ext [32] (by simp) (good_eta g1)
  rw [x1] at h0
  have g0 := numberS_back h0
  show (numberS (markS [46, 46] (numberS (if (wordS ⟨l, none⟩).1 = [105, 110] then (wordS ⟨l, none⟩).2 else stopS (wordS ⟨l, none⟩).2 l.length)).2)).2.bad = none
  rw [if_pos hw, good_eta g3, good_eta g2, good_eta g1]
  exact g0
theorem predS_back {l : List UInt8} (h : (predS ⟨l ++ [32], none⟩).2.bad = none) : (predS ⟨l, none⟩).2.bad = none := by
  have hp : ∀ l, predS ⟨l, none⟩ = (if (blanksS (wordS ⟨l, none⟩).2).l.head? = some 61 then
      (⟨(wordS ⟨l, none⟩).1, 2, 0, 0, (textS (markS [61] (blanksS (wordS ⟨l, none⟩).2))).1⟩, (textS (markS [61] (blanksS (wordS ⟨l, none⟩).2))).2)
    else if (blanksS (wordS ⟨l, none⟩).2).l.head? = some 94 then
      (⟨(wordS ⟨l, none⟩).1, 3, 0, 0, (textS (markS [94, 61] (blanksS (wordS ⟨l, none⟩).2))).1⟩, (textS (markS [94, 61] (blanksS (wordS ⟨l, none⟩).2))).2)
    else inS (wordS ⟨l, none⟩).1 (blanksS (wordS ⟨l, none⟩).2)) := fun _ => rfl
  have hw : (wordS ⟨l ++ [32], none⟩).2.bad = none := by
    rw [hp] at h
    split at h
    · exact blanksS_good (markS_good (textS_good h))
    · split at h
      · exact blanksS_good (markS_good (textS_good h))
      · exact blanksS_good (inS_good h)
  have gw := wordS_back hw
  have ew : wordS ⟨l, none⟩ = ((wordS ⟨l, none⟩).1, ⟨(wordS ⟨l, none⟩).2.l, none⟩) := Prod.ext rfl (good_eta gw)
  generalize (wordS ⟨l, none⟩).1 = w at ew
  generalize (wordS ⟨l, none⟩).2.l = al at ew
  have ex := wordS_ext [] ew
  rw [hp, ex] at h
  rw [hp, ew]
  have hb : ∀ q : List UInt8, blanksS ⟨q, none⟩ = ⟨skip q, none⟩ := fun _ => rfl
  simp only [hb] at h ⊢
  have hne : skip al ≠ [] := by
    intro e
    rw [skip_back e] at h
    rw [if_neg (show ¬ ([] : List UInt8).head? = some 61 by simp), if_neg (show ¬ ([] : List UInt8).head? = some 94 by simp)] at h
    have h0 : (numberS (markS [46, 46] (numberS (if (wordS ⟨[], none⟩).1 = [105, 110] then (wordS ⟨[], none⟩).2 else stopS (wordS ⟨[], none⟩).2 ([] : List UInt8).length)).2)).2.bad = none := h
    have h3 := numberS_good (markS_good (numberS_good h0))
    rw [if_neg (by simp [wordS, skip, wordL])] at h3
    exact stopS_none h3
  rw [skip_ext _ hne] at h
  obtain ⟨c, r, hcr⟩ : ∃ c r, skip al = c :: r := by
    cases hs : skip al with
    | nil => exact absurd hs hne
    | cons c r => exact ⟨c, r, rfl⟩
  rw [hcr] at h ⊢
  by_cases h61 : c = 61
  · rw [if_pos (show (c :: r).head? = some 61 by simp [h61])]
    rw [if_pos (show (c :: r ++ [32] : List UInt8).head? = some 61 by simp [h61])] at h
    have hm := markS_back (by simp) (by simp) (textS_good h)
    rw [markS_ext [32] (by simp) (good_eta hm)] at h
    rw [good_eta hm]
    exact textS_back h
  · rw [if_neg (show ¬ (c :: r).head? = some 61 by simp [h61])]
    rw [if_neg (show ¬ (c :: r ++ [32] : List UInt8).head? = some 61 by simp [h61])] at h
    by_cases h94 : c = 94
    · rw [if_pos (show (c :: r).head? = some 94 by simp [h94])]
      rw [if_pos (show (c :: r ++ [32] : List UInt8).head? = some 94 by simp [h94])] at h
      have hm := markS_back (by simp) (by simp) (textS_good h)
      rw [markS_ext [32] (by simp) (good_eta hm)] at h
      rw [good_eta hm]
      exact textS_back h
    · rw [if_neg (show ¬ (c :: r).head? = some 94 by simp [h94])]
      rw [if_neg (show ¬ (c :: r ++ [32] : List UInt8).head? = some 94 by simp [h94])] at h
      exact inS_back h
theorem andS_back {l : List UInt8} (h : (andS ⟨l ++ [32], none⟩).bad = none) : (andS ⟨l, none⟩).bad = none := by
  unfold andS at h ⊢
  by_cases hw : (wordS ⟨l ++ [32], none⟩).1 = [97, 110, 100]
  · rw [if_pos hw] at h
    have g := wordS_back h
    have e : wordS ⟨l, none⟩ = ((wordS ⟨l, none⟩).1, ⟨(wordS ⟨l, none⟩).2.l, none⟩) := Prod.ext rfl (good_eta g)
    rw [wordS_ext [] e] at hw
    rw [if_pos hw]
    exact g
  · rw [if_neg hw] at h
    exact (stopS_none h).elim
theorem PS_back : ∀ (n : Nat) (l : List UInt8) (acc xs : List Pr), l.length ≤ n → PS (l ++ [32]) acc = .inl xs → PS l acc = .inl xs
  | n, l, acc, xs, hn, h => by
    rw [PS_eq] at h
    rw [PS_eq]
    cases hb : (blanksS (predS ⟨l ++ [32], none⟩).2).bad with
    | some m => rw [hb] at h; cases h
    | none =>
      rw [hb] at h
      simp only at h
      have hg := predS_back (blanksS_good hb)
      rw [predS_ext [] hg] at h
      have e1 : blanksS (predS ⟨l, none⟩).2 = ⟨skip (predS ⟨l, none⟩).2.l, none⟩ := by rw [good_eta hg]; rfl
      have hle : (predS ⟨l, none⟩).2.l.length ≤ l.length := predS_le (st := ⟨l, none⟩) rfl
      rw [e1]
      simp only
      have e2 : ∀ q : List UInt8, blanksS ⟨q, none⟩ = ⟨skip q, none⟩ := fun _ => rfl
      rw [e2] at h
      simp only at h
      by_cases hs : skip (predS ⟨l, none⟩).2.l = []
      · rw [if_pos hs]
        rw [if_pos (skip_back hs)] at h
        exact h
      · rw [if_neg hs]
        rw [skip_ext _ hs, if_neg (by simp)] at h
        cases ha : (andS ⟨skip (predS ⟨l, none⟩).2.l ++ [32], none⟩).bad with
        | some m => unfold PN at h; rw [ha] at h; cases h
        | none =>
          have ha2 := andS_back ha
          have hlt := andS_lt (st := ⟨skip (predS ⟨l, none⟩).2.l, none⟩) rfl ha2
          have hle2 := (skip_suf (predS ⟨l, none⟩).2.l).length_le
          simp only at hlt
          rw [andS_ext [] ha2] at h
          unfold PN at h ⊢
          rw [ha2]
          simp only at h ⊢
          match n with
          | 0 => omega
          | n + 1 => exact PS_back n _ _ _ (by omega) h
theorem PS_behind (l : List UInt8) (acc xs : List Pr) (h : PS l acc = .inl xs) : PS (l ++ [32]) acc = .inl xs := by
  rw [PS_ext [] _ _ _ _ (Nat.le_refl _) h]
  rfl
theorem PS_blanks1 (l : List UInt8) (acc : List Pr) : ∀ m, PS (List.replicate m 32 ++ l) acc = PS l acc
  | 0 => rfl
  | m + 1 => by rw [List.replicate_succ, List.cons_append, PS_blank, PS_blanks1 l acc m]
theorem PS_blanks2 (l : List UInt8) (acc xs : List Pr) : ∀ m, PS (l ++ List.replicate m 32) acc = .inl xs ↔ PS l acc = .inl xs
  | 0 => by simp
  | m + 1 => by
    rw [List.replicate_succ', ← List.append_assoc]
    refine Iff.trans ⟨PS_back _ _ _ _ (Nat.le_refl _), PS_behind _ _ _⟩ (PS_blanks2 l acc xs m)
theorem PS_blanks (l : List UInt8) (acc xs : List Pr) (m : Nat) : PS (List.replicate m 32 ++ l ++ List.replicate m 32) acc = .inl xs ↔ PS l acc = .inl xs := by
  rw [PS_blanks2, PS_blanks1]
/-- Behind a filter's text and a blank, a byte that is none: bad. -/
theorem tailS_byte (c : UInt8) (hc : c ≠ 32) (acc : List Pr) : ∃ n, tailS [c] acc = .inr n := by
  have hs : skip [c] = [c] := by simp [skip, hc]
  unfold tailS
  rw [hs, if_neg (by simp)]
  have hw : (wordS ⟨[c], none⟩).1 ≠ [97, 110, 100] := by
    show (wordL (skip [c])).1 ≠ _
    rw [hs]
    simp only [wordL]
    by_cases hi : isL c = true
    · rw [if_pos hi]; simp
    · rw [if_neg hi]; simp
  have ha : (andS ⟨[c], none⟩) = stopS (wordS ⟨[c], none⟩).2 1 := by
    unfold andS
    rw [if_neg hw]
    rfl
  rw [ha]
  unfold PN
  cases hb : (stopS (wordS ⟨[c], none⟩).2 1).bad with
  | none => exact (stopS_none hb).elim
  | some n => exact ⟨n, rfl⟩
theorem PS_byte (l : List UInt8) (c : UInt8) (hc : c ≠ 32) (acc xs : List Pr) (h : PS l acc = .inl xs) : ∃ n, PS (l ++ [32, c]) acc = .inr n := by
  rw [PS_ext [c] _ _ _ _ (Nat.le_refl _) h]
  exact tailS_byte c hc xs
end Go.Proofs.YthaapijjjgkacaaDoor.Mine
