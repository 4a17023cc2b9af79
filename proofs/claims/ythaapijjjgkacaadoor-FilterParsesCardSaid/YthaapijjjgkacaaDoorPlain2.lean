/-
  The filter parser as plain functions, more: what is left shrinks; the loop's step.
-/
import Derived.Test.YthaapijjjgkacaaDoorPlain
namespace Go.Proofs.YthaapijjjgkacaaDoor.Mine
theorem predS_le {st : St} (h : st.bad = none) : (predS st).2.l.length ≤ st.l.length := (predS_ok (w := st.l) ⟨List.suffix_refl _, fun n hn => by rw [h] at hn; cases hn⟩).1.length_le
theorem blanksS_le (st : St) : (blanksS st).l.length ≤ st.l.length := by
  unfold blanksS
  split
  · exact Nat.le_refl _
  · exact (skip_suf _).length_le
theorem wordL_lt {l : List UInt8} (h : (wordL l).2.bad = none) : (wordL l).2.l.length < l.length := by
  match l with
  | [] => simp [wordL] at h
  | c :: r =>
    by_cases hc : isL c = true
    · have := (dropWhile_suf isA r).length_le
      simp only [wordL, if_pos hc, List.length_cons]
      omega
    · simp [wordL, hc] at h
theorem wordS_lt {st : St} (h0 : st.bad = none) (h : (wordS st).2.bad = none) : (wordS st).2.l.length < st.l.length := by
  obtain ⟨l, b⟩ := st
  cases h0
  have h1 := wordL_lt (l := skip l) h
  have h2 := (skip_suf l).length_le
  show (wordL (skip l)).2.l.length < l.length
  omega
/-- 'and' behind a predicate. -/
def andS (b : St) : St := if (wordS b).1 = [97, 110, 100] then (wordS b).2 else stopS (wordS b).2 b.l.length
theorem andS_ok {w : List UInt8} {st : St} (h : st.ok w) : (andS st).ok w := by
  unfold andS
  split
  · exact wordS_ok h
  · exact stopS_ok (wordS_ok h) h.le
theorem stopS_none {st : St} {n : Nat} (h : (stopS st n).bad = none) : False := by
  unfold stopS at h
  split at h
  · rename_i hb
    rw [hb] at h
    cases h
  · simp at h
theorem andS_lt {st : St} (h0 : st.bad = none) (h : (andS st).bad = none) : (andS st).l.length < st.l.length := by
  unfold andS at h ⊢
  split
  · rename_i hw
    rw [if_pos hw] at h
    exact wordS_lt h0 h
  · rename_i hw
    rw [if_neg hw] at h
    exact (stopS_none h).elim
theorem parseS_succ (k : Nat) (st : St) (acc : List Pr) : parseS (k + 1) st acc =
    match (blanksS (predS st).2).bad with
    | some n => .inr n
    | none => if (blanksS (predS st).2).l = [] then .inl (acc ++ [(predS st).1]) else
      match (andS (blanksS (predS st).2)).bad with
      | some n => .inr n
      | none => parseS k (andS (blanksS (predS st).2)) (acc ++ [(predS st).1]) := rfl
end Go.Proofs.YthaapijjjgkacaaDoor.Mine
