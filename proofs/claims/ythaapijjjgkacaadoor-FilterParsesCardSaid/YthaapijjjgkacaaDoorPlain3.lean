/-
  The filter parser as plain functions: enough rounds are enough; what stands behind a blank changes nothing of what stands ahead; blanks ahead and behind.
-/
import Derived.Test.YthaapijjjgkacaaDoorPlain2
namespace Go.Proofs.YthaapijjjgkacaaDoor.Mine

/-! ### rounds -/
theorem parseS_fuel : ∀ (n k j : Nat) (l : List UInt8) (acc : List Pr), l.length ≤ n → l.length < k → l.length < j → parseS k ⟨l, none⟩ acc = parseS j ⟨l, none⟩ acc
  | n, k, j, l, acc, hn, hk, hj => by
    obtain ⟨k, rfl⟩ : ∃ m, k = m + 1 := ⟨k - 1, by omega⟩
    obtain ⟨j, rfl⟩ : ∃ m, j = m + 1 := ⟨j - 1, by omega⟩
    rw [parseS_succ, parseS_succ]
    cases hb : (blanksS (predS ⟨l, none⟩).2).bad with
    | some m => rfl
    | none =>
      simp only
      split
      · rfl
      · cases ha : (andS (blanksS (predS ⟨l, none⟩).2)).bad with
        | some m => rfl
        | none =>
          simp only
          have h1 := andS_lt hb ha
          have h2 := blanksS_le (predS ⟨l, none⟩).2
          have h3 := predS_le (st := ⟨l, none⟩) rfl
          have h4 : (predS ⟨l, none⟩).2.l.length ≤ l.length := h3
          generalize hst : andS (blanksS (predS ⟨l, none⟩).2) = st at ha h1 ⊢
          obtain ⟨l2, b2⟩ := st
          cases ha
          have h5 : l2.length < l.length := by simp only at h1; omega
          match n with
          | 0 => omega
          | n + 1 => exact parseS_fuel n k j l2 _ (by omega) (by omega) (by omega)
def PS (l : List UInt8) (acc : List Pr) : List Pr ⊕ Nat := parseS (l.length + 1) ⟨l, none⟩ acc
def PN (st : St) (acc : List Pr) : List Pr ⊕ Nat := match st.bad with | some n => .inr n | none => PS st.l acc
theorem PS_eq (l : List UInt8) (acc : List Pr) : PS l acc =
    match (blanksS (predS ⟨l, none⟩).2).bad with
    | some n => .inr n
    | none => if (blanksS (predS ⟨l, none⟩).2).l = [] then .inl (acc ++ [(predS ⟨l, none⟩).1]) else PN (andS (blanksS (predS ⟨l, none⟩).2)) (acc ++ [(predS ⟨l, none⟩).1]) := by
  unfold PS
  rw [parseS_succ]
  cases hb : (blanksS (predS ⟨l, none⟩).2).bad with
  | some m => rfl
  | none =>
    simp only
    split
    · rfl
    · unfold PN
      cases ha : (andS (blanksS (predS ⟨l, none⟩).2)).bad with
      | some m => rfl
      | none =>
        simp only
        have h1 := andS_lt hb ha
        have h2 := blanksS_le (predS ⟨l, none⟩).2
        have h4 : (predS ⟨l, none⟩).2.l.length ≤ l.length := predS_le (st := ⟨l, none⟩) rfl
        generalize hst : andS (blanksS (predS ⟨l, none⟩).2) = st at ha h1 ⊢
        obtain ⟨l2, b2⟩ := st
        cases ha
        have h5 : l2.length < l.length := by simp only at h1; omega
        exact parseS_fuel l2.length _ _ l2 _ (Nat.le_refl _) h5 (Nat.lt_succ_self _)

/-! ### what stands behind a blank -/
theorem skip_ext {l : List UInt8} (t : List UInt8) (h : skip l ≠ []) : skip (l ++ t) = skip l ++ t := by
  induction l with
  | nil => exact absurd rfl h
  | cons c r ih =>
    by_cases hc : c = 32
    · rw [skip, if_pos hc] at h
      rw [List.cons_append, skip, if_pos hc, skip, if_pos hc]
      exact ih h
    · rw [List.cons_append, skip, if_neg hc, skip, if_neg hc]
      rfl
theorem skip_ext0 {l : List UInt8} (t : List UInt8) (h : skip l = []) : skip (l ++ t) = skip t := by
  induction l with
  | nil => rfl
  | cons c r ih =>
    by_cases hc : c = 32
    · rw [skip, if_pos hc] at h
      rw [List.cons_append, skip, if_pos hc]
      exact ih h
    · rw [skip, if_neg hc] at h
      cases h
theorem tw_ext (p : UInt8 → Bool) (r t : List UInt8) (h : p 32 = false) : (r ++ 32 :: t).takeWhile p = r.takeWhile p ∧ (r ++ 32 :: t).dropWhile p = r.dropWhile p ++ 32 :: t := by
  induction r with
  | nil => simp [h]
  | cons c r ih =>
    rw [List.cons_append, List.takeWhile_cons, List.takeWhile_cons, List.dropWhile_cons, List.dropWhile_cons]
    cases hc : p c with
    | true => exact ⟨by simp [ih.1], by simp [ih.2]⟩
    | false => simp
theorem wordL_ext {l w r : List UInt8} (t : List UInt8) (h : wordL l = (w, ⟨r, none⟩)) : wordL (l ++ 32 :: t) = (w, ⟨r ++ 32 :: t, none⟩) := by
  match l with
  | [] => simp [wordL] at h
  | c :: r0 =>
    by_cases hc : isL c = true
    · simp only [wordL, if_pos hc, Prod.mk.injEq, St.mk.injEq, and_true] at h
      obtain ⟨h1, h2⟩ := h
      obtain ⟨e1, e2⟩ := tw_ext isA r0 t (by decide)
      rw [List.cons_append]
      simp only [wordL, if_pos hc, e1, e2, h1, h2]
    · simp [wordL, hc] at h
theorem skip_word {l : List UInt8} (h : (wordL (skip l)).2.bad = none) : skip l ≠ [] := by
  intro e
  rw [e] at h
  simp [wordL] at h
theorem wordS_ext {l w r : List UInt8} (t : List UInt8) (h : wordS ⟨l, none⟩ = (w, ⟨r, none⟩)) : wordS ⟨l ++ 32 :: t, none⟩ = (w, ⟨r ++ 32 :: t, none⟩) := by
  have h1 : wordL (skip l) = (w, ⟨r, none⟩) := h
  show wordL (skip (l ++ 32 :: t)) = _
  rw [skip_ext _ (skip_word (by rw [h1]))]
  exact wordL_ext t h1
theorem markL_ext {m l r : List UInt8} (t : List UInt8) (h : markL m l = ⟨r, none⟩) : markL m (l ++ t) = ⟨r ++ t, none⟩ := by
  unfold markL at h ⊢
  cases hp : m.isPrefixOf l with
  | false => rw [hp] at h; simp at h
  | true =>
    rw [hp] at h
    simp at h
    have hpre := List.isPrefixOf_iff_prefix.mp hp
    have h2 : m.isPrefixOf (l ++ t) = true := List.isPrefixOf_iff_prefix.mpr (hpre.trans (List.prefix_append _ _))
    rw [h2, if_pos rfl, List.drop_append_of_le_length hpre.length_le, h]
theorem markS_ext {m l r : List UInt8} (t : List UInt8) (hm : m ≠ []) (h : markS m ⟨l, none⟩ = ⟨r, none⟩) : markS m ⟨l ++ t, none⟩ = ⟨r ++ t, none⟩ := by
  have h1 : markL m (skip l) = ⟨r, none⟩ := h
  have h2 : skip l ≠ [] := by
    intro e
    rw [e] at h1
    unfold markL at h1
    cases m with
    | nil => exact hm rfl
    | cons a b => simp at h1
  show markL m (skip (l ++ t)) = _
  rw [skip_ext _ h2]
  exact markL_ext t h1
theorem textL_ext : ∀ (n : Nat) (l acc : List UInt8), l.length ≤ n → ∀ (t s r : List UInt8), textL l acc = (some s, r) → textL (l ++ t) acc = (some s, r ++ t)
  | n, [], acc, _, t, s, r, h => by rw [textL_nil] at h; simp at h
  | n, c :: r0, acc, hn, t, s, r, h => by
    rw [List.cons_append]
    by_cases h1 : c = 34
    · rw [textL_q _ _ h1] at h ⊢
      simp at h
      simp [h]
    · match n with
      | 0 => simp at hn
      | n + 1 =>
        by_cases h2 : c = 92
        · match r0 with
          | [] => rw [textL_b0 _ h2] at h; simp at h
          | d :: r' =>
            by_cases h3 : d = 34 ∨ d = 92
            · rw [textL_b1 _ _ h2 h3] at h
              rw [List.cons_append, textL_b1 _ _ h2 h3]
              exact textL_ext n r' _ (by simp at hn; omega) t s r h
            · rw [textL_b2 _ _ h2 h3] at h; simp at h
        · by_cases h3 : 32 ≤ c ∧ c ≤ 126
          · rw [textL_p _ _ h1 h2 h3] at h ⊢
            exact textL_ext n r0 _ (by simp at hn; omega) t s r h
          · rw [textL_n _ _ h1 h2 h3] at h; simp at h
theorem textS_ext {l w r : List UInt8} (t : List UInt8) (h : textS ⟨l, none⟩ = (w, ⟨r, none⟩)) : textS ⟨l ++ t, none⟩ = (w, ⟨r ++ t, none⟩) := by
  unfold textS at h ⊢
  cases hm : markS [34] ⟨l, none⟩ with
  | mk l1 b1 =>
    cases b1 with
    | some n => rw [hm] at h; simp at h
    | none =>
      rw [hm] at h
      rw [markS_ext t (by simp) hm]
      simp only at h ⊢
      cases hx : textL l1 [] with
      | mk o r1 =>
        rw [hx] at h
        cases o with
        | none => simp [textR] at h
        | some s =>
          rw [textL_ext _ _ _ (Nat.le_refl _) t s r1 hx]
          simp [textR] at h ⊢
          exact ⟨h.1, by rw [h.2]⟩
theorem numD_ext {f f' : Nat} {sg v : Int} {d r : List UInt8} (t : List UInt8) (h : numD f sg d = (v, ⟨r, none⟩)) : numD f' sg (d ++ 32 :: t) = (v, ⟨r ++ 32 :: t, none⟩) := by
  obtain ⟨e1, e2⟩ := tw_ext isD d t (by decide)
  unfold numD at h ⊢
  rw [e1, e2]
  by_cases h1 : 10 < (d.takeWhile isD).length
  · rw [if_pos h1] at h; simp at h
  · rw [if_neg h1] at h ⊢
    by_cases h2 : numBad sg d
    · rw [if_pos h2] at h; simp at h
    · rw [if_neg h2] at h
      have h3 : ¬ numBad sg (d ++ 32 :: t) := by
        intro hb
        apply h2
        unfold numBad at hb ⊢
        rw [e1] at hb
        rcases hb with hb | hb | hb
        · exact Or.inl hb
        · refine Or.inr (Or.inl ⟨hb.1, ?_⟩)
          cases d with
          | nil => simp at hb
          | cons c d => simpa using hb.2
        · exact Or.inr (Or.inr hb)
      rw [if_neg h3]
      simp at h ⊢
      exact ⟨h.1, by rw [h.2]⟩
theorem numL_ext {v : Int} {l r : List UInt8} (t : List UInt8) (h : numL l = (v, ⟨r, none⟩)) : numL (l ++ 32 :: t) = (v, ⟨r ++ 32 :: t, none⟩) := by
  match l with
  | [] => simp [numL, numD, numBad] at h
  | c :: r0 =>
    rw [List.cons_append]
    by_cases hc : c = 45
    · simp only [numL, if_pos hc] at h ⊢
      exact numD_ext t h
    · simp only [numL, if_neg hc] at h ⊢
      rw [← List.cons_append]
      exact numD_ext t h
theorem numberS_ext {v : Int} {l r : List UInt8} (t : List UInt8) (h : numberS ⟨l, none⟩ = (v, ⟨r, none⟩)) : numberS ⟨l ++ 32 :: t, none⟩ = (v, ⟨r ++ 32 :: t, none⟩) := by
  have h1 : numL (skip l) = (v, ⟨r, none⟩) := h
  have h2 : skip l ≠ [] := by
    intro e
    rw [e] at h1
    simp [numL, numD, numBad] at h1
  show numL (skip (l ++ 32 :: t)) = _
  rw [skip_ext _ h2]
  exact numL_ext t h1
/-- A state that isn't bad came of one that wasn't. -/
theorem wordS_good {st : St} (h : (wordS st).2.bad = none) : st.bad = none := by
  cases hb : st.bad with
  | none => rfl
  | some n => rw [wordS_bad hb, hb] at h; cases h
theorem markS_good {m : List UInt8} {st : St} (h : (markS m st).bad = none) : st.bad = none := by
  cases hb : st.bad with
  | none => rfl
  | some n => rw [markS_bad hb, hb] at h; cases h
theorem textS_good {st : St} (h : (textS st).2.bad = none) : st.bad = none := by
  cases hb : st.bad with
  | none => rfl
  | some n => rw [textS_bad hb, hb] at h; cases h
theorem numberS_good {st : St} (h : (numberS st).2.bad = none) : st.bad = none := by
  cases hb : st.bad with
  | none => rfl
  | some n => rw [numberS_bad hb, hb] at h; cases h
theorem blanksS_good {st : St} (h : (blanksS st).bad = none) : st.bad = none := by
  cases hb : st.bad with
  | none => rfl
  | some n => rw [blanksS_bad hb, hb] at h; cases h
theorem good_eta {st : St} (h : st.bad = none) : st = ⟨st.l, none⟩ := by cases st; cases h; rfl
theorem inS_ext {nm l : List UInt8} (t : List UInt8) (h : (inS nm ⟨l, none⟩).2.bad = none) : inS nm ⟨l ++ 32 :: t, none⟩ = ((inS nm ⟨l, none⟩).1, ⟨(inS nm ⟨l, none⟩).2.l ++ 32 :: t, none⟩) := by
  have h0 : (numberS (markS [46, 46] (numberS (if (wordS ⟨l, none⟩).1 = [105, 110] then (wordS ⟨l, none⟩).2 else stopS (wordS ⟨l, none⟩).2 l.length)).2)).2.bad = none := h
  have h1 := numberS_good h0
  have h2 := markS_good h1
  have h3 := numberS_good h2
  have hw : (wordS ⟨l, none⟩).1 = [105, 110] := by
    by_cases hw : (wordS ⟨l, none⟩).1 = [105, 110]
    · exact hw
    · rw [if_neg hw] at h3
      exact (stopS_none h3).elim
  rw [if_pos hw] at h0 h1 h2 h3
  obtain ⟨w, a⟩ : ∃ w a, wordS ⟨l, none⟩ = (w, a) := ⟨_, _, rfl⟩
  obtain ⟨a, ea⟩ := a
  rw [ea] at hw h0 h1 h2 h3
  simp only at hw h0 h1 h2 h3
  subst hw
  rw [good_eta h3] at ea h0 h1 h2
  have ex := wordS_ext t ea
  cases en : numberS ⟨a.l, none⟩ with
  | mk v1 n1 =>
    rw [en] at h0 h1 h2
    simp only at h0 h1 h2
    rw [good_eta h2] at en h0 h1
    have en2 := numberS_ext t en
    have em := good_eta h1
    have em2 := markS_ext (32 :: t) (by simp) em
    rw [em] at h0
    cases ek : numberS ⟨(markS [46, 46] ⟨n1.l, none⟩).l, none⟩ with
    | mk v2 n2 =>
      rw [ek] at h0
      simp only at h0
      rw [good_eta h0] at ek
      have ek2 := numberS_ext t ek
      unfold inS
      simp only [ea, ex, if_true, en, en2]
      rw [em2, ek2, em, ek]
end Go.Proofs.YthaapijjjgkacaaDoor.Mine
