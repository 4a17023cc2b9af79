/-
  Texts of this claim, one behind the other: what each one proves, and its conditions, stand at its head.
-/
import Derived.Test.YtlokmijoaocofaaMT2
import Derived.Test.YtlokmijoaocofaaProg
import Derived.WalkKit
import Derived.LaidEql
import Derived.Stop.Asserts
import Derived.RowKitTokens
import Derived.Deep.LoopGhost
import Derived.Deep.RegionWith
import Derived.Outline
import Derived.BigQuiet
import Derived.KernelRfl
import Derived.WideLaws
import Derived.Lib.AppendStr
import Derived.Laws.RangeAny
import Derived.Laws.Concat
import Derived.Deep.QuietTactic
import Derived.Shelf.Abstract
import Derived.Shelf.GgClosure.StringsIndexFuncTop
import Derived.Ground.GgwProg
import Derived.Lib.DecodeN
import Derived.Laws.RangeString
import Derived.Deep.RegionHeld3
import Derived.Sort.OwnSorted
import Derived.Maps.RangeWalk
set_option linter.unusedSimpArgs false
set_option linter.unusedVariables false
section
/-
  The filter parser as plain functions: enough rounds are enough; what stands behind a blank changes nothing of what stands ahead; blanks ahead and behind.
-/
namespace Go.Proofs.Ytlokmijoaocofaa.Mine

/-! ### rounds -/
theorem parseS_fuel : ∀ (n k j : Nat) (l : List UInt8) (acc : List Pr), l.length ≤ n → l.length < k → l.length < j → parseS k ⟨l, none⟩ acc = parseS j ⟨l, none⟩ acc
  | n, k, j, l, acc, hn, hk, hj => by
    obtain ⟨k, rfl⟩ : ∃ m, k = m + 1 := ⟨k - 1, by omega⟩
    obtain ⟨j, rfl⟩ : ∃ m, j = m + 1 := ⟨j - 1, by omega⟩
    rw [parseS_succ, parseS_succ]
    cases hb : (blanksS (predS ⟨l, none⟩).2).bad with
    | some m => rfl
    | none =>
      simp only
      split
      · rfl
      · cases ha : (andS (blanksS (predS ⟨l, none⟩).2)).bad with
        | some m => rfl
        | none =>
          simp only
          have h1 := andS_lt hb ha
          have h2 := blanksS_le (predS ⟨l, none⟩).2
          have h3 := predS_le (st := ⟨l, none⟩) rfl
          have h4 : (predS ⟨l, none⟩).2.l.length ≤ l.length := h3
          generalize hst : andS (blanksS (predS ⟨l, none⟩).2) = st at ha h1 ⊢
          obtain ⟨l2, b2⟩ := st
          cases ha
          have h5 : l2.length < l.length := by simp only at h1; omega
          match n with
          | 0 => omega
          | n + 1 => exact parseS_fuel n k j l2 _ (by omega) (by omega) (by omega)
def PS (l : List UInt8) (acc : List Pr) : List Pr ⊕ Nat := parseS (l.length + 1) ⟨l, none⟩ acc
def PN (st : St) (acc : List Pr) : List Pr ⊕ Nat := match st.bad with | some n => .inr n | none => PS st.l acc
theorem PS_eq (l : List UInt8) (acc : List Pr) : PS l acc =
    match (blanksS (predS ⟨l, none⟩).2).bad with
    | some n => .inr n
    | none => if (blanksS (predS ⟨l, none⟩).2).l = [] then .inl (acc ++ [(predS ⟨l, none⟩).1]) else PN (andS (blanksS (predS ⟨l, none⟩).2)) (acc ++ [(predS ⟨l, none⟩).1]) := by
  unfold PS
  rw [parseS_succ]
  cases hb : (blanksS (predS ⟨l, none⟩).2).bad with
  | some m => rfl
  | none =>
    simp only
    split
    · rfl
    · unfold PN
      cases ha : (andS (blanksS (predS ⟨l, none⟩).2)).bad with
      | some m => rfl
      | none =>
        simp only
        have h1 := andS_lt hb ha
        have h2 := blanksS_le (predS ⟨l, none⟩).2
        have h4 : (predS ⟨l, none⟩).2.l.length ≤ l.length := predS_le (st := ⟨l, none⟩) rfl
        generalize hst : andS (blanksS (predS ⟨l, none⟩).2) = st at ha h1 ⊢
        obtain ⟨l2, b2⟩ := st
        cases ha
        have h5 : l2.length < l.length := by simp only at h1; omega
        exact parseS_fuel l2.length _ _ l2 _ (Nat.le_refl _) h5 (Nat.lt_succ_self _)

/-! ### what stands behind a blank -/
theorem skip_ext {l : List UInt8} (t : List UInt8) (h : skip l ≠ []) : skip (l ++ t) = skip l ++ t := by
  induction l with
  | nil => exact absurd rfl h
  | cons c r ih =>
    by_cases hc : c = 32
    · rw [skip, if_pos hc] at h
      rw [List.cons_append, skip, if_pos hc, skip, if_pos hc]
      exact ih h
    · rw [List.cons_append, skip, if_neg hc, skip, if_neg hc]
      rfl
theorem skip_ext0 {l : List UInt8} (t : List UInt8) (h : skip l = []) : skip (l ++ t) = skip t := by
  induction l with
  | nil => rfl
  | cons c r ih =>
    by_cases hc : c = 32
    · rw [skip, if_pos hc] at h
      rw [List.cons_append, skip, if_pos hc]
      exact ih h
    · rw [skip, if_neg hc] at h
      cases h
theorem tw_ext (p : UInt8 → Bool) (r t : List UInt8) (h : p 32 = false) : (r ++ 32 :: t).takeWhile p = r.takeWhile p ∧ (r ++ 32 :: t).dropWhile p = r.dropWhile p ++ 32 :: t := by
  induction r with
  | nil => simp [h]
  | cons c r ih =>
    rw [List.cons_append, List.takeWhile_cons, List.takeWhile_cons, List.dropWhile_cons, List.dropWhile_cons]
    cases hc : p c with
    | true => exact ⟨by simp [ih.1], by simp [ih.2]⟩
    | false => simp
theorem wordL_ext {l w r : List UInt8} (t : List UInt8) (h : wordL l = (w, ⟨r, none⟩)) : wordL (l ++ 32 :: t) = (w, ⟨r ++ 32 :: t, none⟩) := by
  match l with
  | [] => simp [wordL] at h
  | c :: r0 =>
    by_cases hc : isL c = true
    · simp only [wordL, if_pos hc, Prod.mk.injEq, St.mk.injEq, and_true] at h
      obtain ⟨h1, h2⟩ := h
      obtain ⟨e1, e2⟩ := tw_ext isA r0 t (by decide)
      rw [List.cons_append]
      simp only [wordL, if_pos hc, e1, e2, h1, h2]
    · simp [wordL, hc] at h
theorem skip_word {l : List UInt8} (h : (wordL (skip l)).2.bad = none) : skip l ≠ [] := by
  intro e
  rw [e] at h
  simp [wordL] at h
theorem wordS_ext {l w r : List UInt8} (t : List UInt8) (h : wordS ⟨l, none⟩ = (w, ⟨r, none⟩)) : wordS ⟨l ++ 32 :: t, none⟩ = (w, ⟨r ++ 32 :: t, none⟩) := by
  have h1 : wordL (skip l) = (w, ⟨r, none⟩) := h
  show wordL (skip (l ++ 32 :: t)) = _
  rw [skip_ext _ (skip_word (by rw [h1]))]
  exact wordL_ext t h1
theorem markL_ext {m l r : List UInt8} (t : List UInt8) (h : markL m l = ⟨r, none⟩) : markL m (l ++ t) = ⟨r ++ t, none⟩ := by
  unfold markL at h ⊢
  cases hp : m.isPrefixOf l with
  | false => rw [hp] at h; simp at h
  | true =>
    rw [hp] at h
    simp at h
    have hpre := List.isPrefixOf_iff_prefix.mp hp
    have h2 : m.isPrefixOf (l ++ t) = true := List.isPrefixOf_iff_prefix.mpr (hpre.trans (List.prefix_append _ _))
    rw [h2, if_pos rfl, List.drop_append_of_le_length hpre.length_le, h]
theorem markS_ext {m l r : List UInt8} (t : List UInt8) (hm : m ≠ []) (h : markS m ⟨l, none⟩ = ⟨r, none⟩) : markS m ⟨l ++ t, none⟩ = ⟨r ++ t, none⟩ := by
  have h1 : markL m (skip l) = ⟨r, none⟩ := h
  have h2 : skip l ≠ [] := by
    intro e
    rw [e] at h1
    unfold markL at h1
    cases m with
    | nil => exact hm rfl
    | cons a b => simp at h1
  show markL m (skip (l ++ t)) = _
  rw [skip_ext _ h2]
  exact markL_ext t h1
theorem textL_ext : ∀ (n : Nat) (l acc : List UInt8), l.length ≤ n → ∀ (t s r : List UInt8), textL l acc = (some s, r) → textL (l ++ t) acc = (some s, r ++ t)
  | n, [], acc, _, t, s, r, h => by rw [textL_nil] at h; simp at h
  | n, c :: r0, acc, hn, t, s, r, h => by
    rw [List.cons_append]
    by_cases h1 : c = 34
    · rw [textL_q _ _ h1] at h ⊢
      simp at h
      simp [h]
    · match n with
      | 0 => simp at hn
      | n + 1 =>
        by_cases h2 : c = 92
        · match r0 with
          | [] => rw [textL_b0 _ h2] at h; simp at h
          | d :: r' =>
            by_cases h3 : d = 34 ∨ d = 92
            · rw [textL_b1 _ _ h2 h3] at h
              rw [List.cons_append, textL_b1 _ _ h2 h3]
              exact textL_ext n r' _ (by simp at hn; omega) t s r h
            · rw [textL_b2 _ _ h2 h3] at h; simp at h
        · by_cases h3 : 32 ≤ c ∧ c ≤ 126
          · rw [textL_p _ _ h1 h2 h3] at h ⊢
            exact textL_ext n r0 _ (by simp at hn; omega) t s r h
          · rw [textL_n _ _ h1 h2 h3] at h; simp at h
theorem textS_ext {l w r : List UInt8} (t : List UInt8) (h : textS ⟨l, none⟩ = (w, ⟨r, none⟩)) : textS ⟨l ++ t, none⟩ = (w, ⟨r ++ t, none⟩) := by
  unfold textS at h ⊢
  cases hm : markS [34] ⟨l, none⟩ with
  | mk l1 b1 =>
    cases b1 with
    | some n => rw [hm] at h; simp at h
    | none =>
      rw [hm] at h
      rw [markS_ext t (by simp) hm]
      simp only at h ⊢
      cases hx : textL l1 [] with
      | mk o r1 =>
        rw [hx] at h
        cases o with
        | none => simp [textR] at h
        | some s =>
          rw [textL_ext _ _ _ (Nat.le_refl _) t s r1 hx]
          simp [textR] at h ⊢
          exact ⟨h.1, by rw [h.2]⟩
theorem numD_ext {f f' : Nat} {sg v : Int} {d r : List UInt8} (t : List UInt8) (h : numD f sg d = (v, ⟨r, none⟩)) : numD f' sg (d ++ 32 :: t) = (v, ⟨r ++ 32 :: t, none⟩) := by
  obtain ⟨e1, e2⟩ := tw_ext isD d t (by decide)
  unfold numD at h ⊢
  rw [e1, e2]
  by_cases h1 : 10 < (d.takeWhile isD).length
  · rw [if_pos h1] at h; simp at h
  · rw [if_neg h1] at h ⊢
    by_cases h2 : numBad sg d
    · rw [if_pos h2] at h; simp at h
    · rw [if_neg h2] at h
      have h3 : ¬ numBad sg (d ++ 32 :: t) := by
        intro hb
        apply h2
        unfold numBad at hb ⊢
        rw [e1] at hb
        rcases hb with hb | hb | hb
        · exact Or.inl hb
        · refine Or.inr (Or.inl ⟨hb.1, ?_⟩)
          cases d with
          | nil => simp at hb
          | cons c d => simpa using hb.2
        · exact Or.inr (Or.inr hb)
      rw [if_neg h3]
      simp at h ⊢
      exact ⟨h.1, by rw [h.2]⟩
theorem numL_ext {v : Int} {l r : List UInt8} (t : List UInt8) (h : numL l = (v, ⟨r, none⟩)) : numL (l ++ 32 :: t) = (v, ⟨r ++ 32 :: t, none⟩) := by
  match l with
  | [] => simp [numL, numD, numBad] at h
  | c :: r0 =>
    rw [List.cons_append]
    by_cases hc : c = 45
    · simp only [numL, if_pos hc] at h ⊢
      exact numD_ext t h
    · simp only [numL, if_neg hc] at h ⊢
      rw [← List.cons_append]
      exact numD_ext t h
theorem numberS_ext {v : Int} {l r : List UInt8} (t : List UInt8) (h : numberS ⟨l, none⟩ = (v, ⟨r, none⟩)) : numberS ⟨l ++ 32 :: t, none⟩ = (v, ⟨r ++ 32 :: t, none⟩) := by
  have h1 : numL (skip l) = (v, ⟨r, none⟩) := h
  have h2 : skip l ≠ [] := by
    intro e
    rw [e] at h1
    simp [numL, numD, numBad] at h1
  show numL (skip (l ++ 32 :: t)) = _
  rw [skip_ext _ h2]
  exact numL_ext t h1
/-- A state that isn't bad came of one that wasn't. -/
theorem wordS_good {st : St} (h : (wordS st).2.bad = none) : st.bad = none := by
  cases hb : st.bad with
  | none => rfl
  | some n => rw [wordS_bad hb, hb] at h; cases h
theorem markS_good {m : List UInt8} {st : St} (h : (markS m st).bad = none) : st.bad = none := by
  cases hb : st.bad with
  | none => rfl
  | some n => rw [markS_bad hb, hb] at h; cases h
theorem textS_good {st : St} (h : (textS st).2.bad = none) : st.bad = none := by
  cases hb : st.bad with
  | none => rfl
  | some n => rw [textS_bad hb, hb] at h; cases h
theorem numberS_good {st : St} (h : (numberS st).2.bad = none) : st.bad = none := by
  cases hb : st.bad with
  | none => rfl
  | some n => rw [numberS_bad hb, hb] at h; cases h
theorem blanksS_good {st : St} (h : (blanksS st).bad = none) : st.bad = none := by
  cases hb : st.bad with
  | none => rfl
  | some n => rw [blanksS_bad hb, hb] at h; cases h
theorem good_eta {st : St} (h : st.bad = none) : st = ⟨st.l, none⟩ := by cases st; cases h; rfl
theorem inS_ext {nm l : List UInt8} (t : List UInt8) (h : (inS nm ⟨l, none⟩).2.bad = none) : inS nm ⟨l ++ 32 :: t, none⟩ = ((inS nm ⟨l, none⟩).1, ⟨(inS nm ⟨l, none⟩).2.l ++ 32 :: t, none⟩) := by
  have h0 : (numberS (markS [46, 46] (numberS (if (wordS ⟨l, none⟩).1 = [105, 110] then (wordS ⟨l, none⟩).2 else stopS (wordS ⟨l, none⟩).2 l.length)).2)).2.bad = none := h
  have h1 := numberS_good h0
  have h2 := markS_good h1
  have h3 := numberS_good h2
  have hw : (wordS ⟨l, none⟩).1 = [105, 110] := by
    by_cases hw : (wordS ⟨l, none⟩).1 = [105, 110]
    · exact hw
    · rw [if_neg hw] at h3
      exact (stopS_none h3).elim
  rw [if_pos hw] at h0 h1 h2 h3
  obtain ⟨w, a⟩ : ∃ w a, wordS ⟨l, none⟩ = (w, a) := ⟨_, _, rfl⟩
  obtain ⟨a, ea⟩ := a
  rw [ea] at hw h0 h1 h2 h3
  simp only at hw h0 h1 h2 h3
  subst hw
  rw [good_eta h3] at ea h0 h1 h2
  have ex := wordS_ext t ea
  cases en : numberS ⟨a.l, none⟩ with
  | mk v1 n1 =>
    rw [en] at h0 h1 h2
    simp only at h0 h1 h2
    rw [good_eta h2] at en h0 h1
    have en2 := numberS_ext t en
    have em := good_eta h1
    have em2 := markS_ext (32 :: t) (by simp) em
    rw [em] at h0
    cases ek : numberS ⟨(markS [46, 46] ⟨n1.l, none⟩).l, none⟩ with
    | mk v2 n2 =>
      rw [ek] at h0
      simp only at h0
      rw [good_eta h0] at ek
      have ek2 := numberS_ext t ek
      unfold inS
      simp only [ea, ex, if_true, en, en2]
      rw [em2, ek2, em, ek]
end Go.Proofs.Ytlokmijoaocofaa.Mine
end
section
/-
  Contracts of errors.Is, errors.As at errors that are codes, or faults around them (as this program makes them); of api.Of.
-/
namespace Go.Proofs.Ytlokmijoaocofaa.Mine
open Go.RowKit Go.Extern.Stop Go.Stop Go.Extern

section
variable {P : Program} (w : World)
theorem run_equalIn_iface_int (d : Nat) {ti tn : TypeId} {ms : Array (String × TypeId)} {i : TypeInfo} {k : IntKind} (a b : Int)
    (hi : P.underlying ti = some (.interface ms)) (hn : P.underlying tn = some (.int k)) (hinfo : P.info? tn = some i) (hcomp : i.comparable = true) :
    (Op.equalIn (d + 2) ti (.iface tn (.int k a)) (.iface tn (.int k b))).run P w = .ok (a == b) w := by
  simp [Op.equalIn, run_underlying hi, run_underlying hn, typeInfo, hinfo, hcomp]
theorem run_eql_iface_int {ti tn : TypeId} {ms : Array (String × TypeId)} {i : TypeInfo} {k : IntKind} (a b : Int)
    (hi : P.underlying ti = some (.interface ms)) (hn : P.underlying tn = some (.int k)) (hinfo : P.info? tn = some i) (hcomp : i.comparable = true) :
    (binOp .eql ti (.iface tn (.int k a)) (.iface tn (.int k b))).run P w = .ok (.bool (a == b)) w := by
  simp only [binOp]
  simp [Op.equal, Op.maxDepth, run_equalIn_iface_int w 9998 a b hi hn hinfo hcomp]
end

/-- An error that is a code, within n faults. -/
def ErrIs (w : World) (c : Int) : Nat → Value → Prop
  | 0, v => v = .iface 47 (.int .i64 c)
  | n + 1, v => ∃ (b : Nat) (wh : ByteArray) (at_ : Int) (x : Value), v = .iface 103 (.pointer (some ⟨b, 0, none⟩)) ∧ w.heap[b]? = some (.cells #[.string wh, .int .i64 at_, x] 105 (0, 0)) ∧ ErrIs w c n x
theorem ErrIs.below {w w' : World} {c : Int} (hb : ∀ b, b < w.heap.size → w'.heap[b]? = w.heap[b]?) : ∀ {n : Nat} {v : Value}, ErrIs w c n v → ErrIs w' c n v
  | 0, _, h => h
  | _ + 1, _, ⟨b, wh, at_, x, hv, hc, hx⟩ => ⟨b, wh, at_, x, hv, (hb b (Array.getElem?_eq_some_iff.1 hc).1).trans hc, ErrIs.below hb hx⟩

theorem ErrIs.iface {w : World} {c : Int} : ∀ {n : Nat} {v : Value}, ErrIs w c n v → ∃ t y, v = .iface t y
  | 0, _, h => ⟨_, _, h⟩
  | _ + 1, _, ⟨_, _, _, _, h, _⟩ => ⟨_, _, h⟩
theorem info47 : (Try.prog.info? 47).map (·.comparable) = some true := by kernel_rfl
theorem eqCode (a b : Int) (w : World) : (binOp .eql 39 (.iface 47 (.int .i64 a)) (.iface 47 (.int .i64 b))).run Try.prog w = .ok (.bool (a == b)) w := by
  obtain ⟨i, hi, hc⟩ := Option.map_eq_some_iff.1 info47
  exact run_eql_iface_int w a b Try.underlying39 Try.underlying47 hi hc
theorem eqFault (a : Value) (b : Int) (w : World) : (binOp .eql 39 (.iface 103 a) (.iface 47 (.int .i64 b))).run Try.prog w = .ok (.bool false) w :=
  run_eql_iface_types _ _ _ _ Try.underlying39 (by decide) w
theorem noIsFault (v : Value) (xT : TypeId) (w : World) : (Instr.typeAssert (.iface 103 v) xT 109 true).run Try.prog w = .ok (.tuple #[.nilIface, .bool false]) w := run_typeAssert_lacksB Try.underlying109 (by kernel_rfl) (by kernel_rfl) v xT w
theorem noIsCode (v : Value) (xT : TypeId) (w : World) : (Instr.typeAssert (.iface 47 v) xT 109 true).run Try.prog w = .ok (.tuple #[.nilIface, .bool false]) w := run_typeAssert_lacksB Try.underlying109 (by kernel_rfl) (by kernel_rfl) v xT w
theorem unwrapFault (v : Value) (xT : TypeId) (w : World) : (Instr.typeAssert (.iface 103 v) xT 112 true).run Try.prog w = .ok (.tuple #[.iface 103 v, .bool true]) w := run_typeAssert_hasB Try.underlying112 (by kernel_rfl) v xT w
theorem noUnwrapCode (v : Value) (xT : TypeId) (w : World) : (Instr.typeAssert (.iface 47 v) xT 112 true).run Try.prog w = .ok (.tuple #[.nilIface, .bool false]) w := run_typeAssert_lacksB Try.underlying112 (by kernel_rfl) (by kernel_rfl) v xT w
theorem noUnwrapsCode (v : Value) (xT : TypeId) (w : World) : (Instr.typeAssert (.iface 47 v) xT 113 true).run Try.prog w = .ok (.tuple #[.nilIface, .bool false]) w := run_typeAssert_lacksB Try.underlying113 (by kernel_rfl) (by kernel_rfl) v xT w
theorem nilAheadF (a : Addr) (w : World) : (nilAhead 296 103 (.pointer (some a)) "Unwrap").run Try.prog w = .ok (some false) w := by kernel_rfl
theorem methodUnwrap (a : Addr) (w : World) : (Go.method 296 103 (.pointer (some a)) "Unwrap").run Try.prog w = .ok (102, .pointer (some a)) w := by kernel_rfl

theorem unwrap_calls (b : Nat) (x : Value) (w : World) (hc : w.cell? ⟨b, 2, none⟩ = some x) : Calls Try.prog 102 #[.pointer (some ⟨b, 0, none⟩)] w fun e w' => e = .returned x ∧ w = w' := by
  go_enter Try.func102, Try.ntmps102
  go_wp2
  go_ret
  exact ⟨rfl, rfl⟩

set_option maxHeartbeats 1000000 in
set_option maxRecDepth 100000 in
theorem is_loop (c c2 : Int) (n : Nat) (v : Value) (w : World) (h : ErrIs w c n v) :
    Calls Try.prog 26 #[v, .iface 47 (.int .i64 c2), .bool true] w fun e w' => e = .returned (.bool (c == c2)) ∧ w = w' := by
  have e1 := eqCode
  have e2 := eqFault
  have e3 := noIsFault
  have e4 := noIsCode
  have e5 := unwrapFault
  have e6 := noUnwrapCode
  have e7 := noUnwrapsCode
  have e8 := nilAheadF
  have e9 := methodUnwrap
  have HH : Aside (ErrIs w c n v) := h
  clear h
  go_enter Try.func26, Try.ntmps26
  go_wp2
  go_loopg [0] (n + 1) (fun k v0 wr => wr = w ∧ 0 < k ∧ Aside (ErrIs w c (k - 1) v0))
  case atStart => exact ⟨rfl, by omega, HH⟩
  case round =>
    obtain ⟨hw, hk, HE⟩ := hrel
    subst hw
    obtain ⟨k, rfl⟩ : ∃ k, gk = k + 1 := ⟨gk - 1, by omega⟩
    simp only [Nat.add_sub_cancel] at HE
    cases k with
    | zero =>
      have hv : u0 = .iface 47 (.int .i64 c) := HE.out
      subst hv
      cases hcc : (c == c2) with
      | true =>
        go_wp2
        repeat (go_quiet (fail); try go_wp2)
        go_ret
        exact ⟨by rw [hcc]; rfl, rfl⟩
      | false =>
        go_wp2
        repeat (go_quiet (fail); try go_wp2)
        go_ret
        exact ⟨by rw [hcc]; rfl, rfl⟩
    | succ k =>
      obtain ⟨b, wh, at_, x, hv, hb, hx⟩ := HE.out
      subst hv
      have hc := cell_of_row wr b 2 _ _ _ hb
      have hc' : wr.cell? ⟨b, 2, none⟩ = some x := hc
      have HX : Aside (ErrIs wr c k x) := hx
      obtain ⟨tx, vx, hxv⟩ := hx.iface
      have hxn := run_eql_held_nil (P := Try.prog) wr 39 tx vx Try.underlying39
      subst hxv
      clear hc hb hx
      go_wp2_with (first | (go_at_call 102; refine (unwrap_calls b _ _ hc').mono ?_; rintro e w' ⟨rfl, rfl⟩))
      go_roundg (k + 1)
      case measure => omega
      case rel => exact ⟨rfl, by omega, HX⟩

theorem typeOfCode (v : Value) (w : World) : (ReflectliteType.typeOf #[.iface 47 v]).run Try.prog w = .ok (.iface 107 (.agg #[.pointer (some ⟨0, 47, none⟩)])) w := by kernel_rfl
theorem methodComparable (h : Value) (w : World) : (Go.method 296 107 (.agg #[h]) "Comparable").run Try.prog w = .ok (106, .agg #[h]) w := by kernel_rfl
theorem isComparable (w : World) : ((ReflectliteType.method fun t => do Rtype.noPackHeld "Comparable" t; (fun a => Value.bool a.comparable) <$> typeInfo t) #[.agg #[.pointer (some ⟨0, 47, none⟩)]]).run Try.prog w = .ok (.bool true) w := by kernel_rfl
set_option maxHeartbeats 1000000 in
set_option maxRecDepth 100000 in
theorem is_err (c c2 : Int) (n : Nat) (v : Value) (w : World) (h : ErrIs w c n v) :
    Calls Try.prog 14 #[v, .iface 47 (.int .i64 c2)] w fun e w' => e = .returned (.bool (c == c2)) ∧ w = w' := by
  obtain ⟨tx, vx, rfl⟩ := h.iface
  have HH : Aside (ErrIs w c n (.iface tx vx)) := h
  clear h
  have n1 := run_eql_held_nil (P := Try.prog) w 39 tx vx Try.underlying39
  have n2 := run_eql_held_nil (P := Try.prog) w 39 47 (.int .i64 c2) Try.underlying39
  have h8 := @run_callFunc_extern Try.prog 25 _ ReflectliteType.typeOf Try.func25 (by kernel_rfl) (by kernel_rfl) (by kernel_rfl) (by kernel_rfl)
  have h32 := @run_callFunc_extern Try.prog 106 _ (ReflectliteType.method fun t => do Rtype.noPackHeld "Comparable" t; pure (.bool (← typeInfo t).comparable)) Try.func106 (by kernel_rfl) (by kernel_rfl) (by kernel_rfl) (by kernel_rfl)
  have t1 := typeOfCode
  have m1 := methodComparable
  have c1 := isComparable
  go_enter Try.func14, Try.ntmps14
  go_wp2_with (first | (go_at_call 26; refine (is_loop c c2 n _ _ HH.out).mono ?_; rintro e w' ⟨rfl, rfl⟩))
  go_ret
  exact ⟨rfl, rfl⟩
set_option maxRecDepth 100000 in
theorem is_nil (c2 : Int) (w : World) : Calls Try.prog 14 #[.nilIface, .iface 47 (.int .i64 c2)] w fun e w' => e = .returned (.bool false) ∧ w = w' := by
  have hn := run_eql_iface_nil_left (P := Try.prog) w 47 (.int .i64 c2) Try.underlying39
  go_enter Try.func14, Try.ntmps14
  go_wp2
  go_ret
  exact ⟨rfl, rfl⟩
end Go.Proofs.Ytlokmijoaocofaa.Mine
end
section
/-
  What chapters 18 and 6 share: the parser's contract opened, faults kept, texts cut, how many predicates a text can hold. No condition beyond each theorem's own.
-/
namespace Go.Proofs.Ytlokmijoaocofaa.Mine
open Go.RowKit Go.Proofs.YtlokmijoaocofaaW.PrintWords Go.Proofs.YtlokmijoaocofaaW.PrintLast Go.Proofs.YtlokmijoaocofaaW.PrintMore
open Go.Proofs.Ytlokmijoaocofaa.PBoardAgain
theorem parse_P (s : ByteArray) (w : World) (h : s.size ≤ 1000) : Calls Try.prog 38 #[.string s] w (ParsePost w s) := by
  by_cases h3 : 300 < s.size
  · exact parse_long s w h h3
  · exact parse_any s w (by omega)
theorem ParsePost.ok {w w' : World} {s : ByteArray} {xs : List Pr} {e : Ending} (h : ParsePost w s e w') (hr : parseR s = .inl xs) : ParseOk w xs e w' := by
  unfold ParsePost at h
  rw [hr] at h
  exact h
theorem ParsePost.no {w w' : World} {s : ByteArray} {a c : Int} {e : Ending} (h : ParsePost w s e w') (hr : parseR s = .inr (a, c)) : ParseNo w a c e w' := by
  unfold ParsePost at h
  rw [hr] at h
  exact h
theorem IsFault.errIs {w : World} {b : Nat} {wh : ByteArray} {at_ c : Int} (h : IsFault w b wh at_ c) : ErrIs w c 1 (.iface 103 (.pointer (some ⟨b, 0, none⟩))) := ⟨b, wh, at_, _, rfl, h, rfl⟩
theorem IsFault.keep {w w' : World} {b : Nat} {wh : ByteArray} {at_ c : Int} (h : IsFault w b wh at_ c) (hb : Below w.heap.size w w') : IsFault w' b wh at_ c := (hb.block b (Array.getElem?_eq_some_iff.1 h).1).trans h

theorem R_head {α : Type} {d : Kd α} {e : Nat} {w : World} {base : Nat} {ok : Nat → Prop} {v : Value} {xs : List α} (h : d.R e w base ok v xs) (hx : 0 < xs.length) : ∃ g cap, v = .slice (some ⟨g, 0, none⟩) xs.length cap ∧ xs.length ≤ cap := by
  obtain ⟨A, c, hv, hc, _⟩ := Kd.R_reads h
  obtain ⟨_, inner, hown, hr⟩ := h
  rcases hown.2 with ⟨h1, _⟩ | ⟨g, cap, cur, h1, _⟩
  · rw [hv] at h1
    injection h1 with _ h2 _
    omega
  · rw [hv] at h1
    injection h1 with h2 h3 h4
    subst h2 h4
    exact ⟨g, c, hv, hc⟩
def cutB (s : ByteArray) (n : Nat) : ByteArray := if n < s.size then s.extract 0 n else s
theorem cutB_le (s : ByteArray) (n : Nat) : (cutB s n).size ≤ n := by
  unfold cutB
  split
  · simp; omega
  · omega
theorem cut_P (s : ByteArray) (n : Nat) (w : World) (hs : s.size ≤ 9223372036854775807) (hn : n ≤ 100000) : Calls Try.prog 13 #[.string s, .int .i64 (n : Int)] w fun e w' => e = .returned (.string (cutB s n)) ∧ w = w' := by
  by_cases h : n < s.size
  · have h1 := decide_eq_true (show (n : Int) < (s.size : Int) by omega)
    have h2 := decide_eq_true h
    have h3 : (0 : Int) ≤ (n : Int) := by omega
    have h4 : (n : Int) ≤ (s.size : Int) := by omega
    go_enter Try.func13, Try.ntmps13
    go_wp2
    go_ret
    exact ⟨by unfold cutB; rw [if_pos h]; first | rfl | simp, rfl⟩
  · have h1 := decide_eq_false (show ¬ (n : Int) < (s.size : Int) by omega)
    have h2 := decide_eq_false h
    go_enter Try.func13, Try.ntmps13
    go_wp2
    go_ret
    exact ⟨by unfold cutB; rw [if_neg h]; first | rfl | simp, rfl⟩

theorem parseR_ok {s : ByteArray} {xs : List Pr} (h : parseR s = .inl xs) : s.size ≤ 300 ∧ PS (bytes s) [] = .inl xs := by
  unfold parseR at h
  split at h
  · cases h
  · rename_i hs
    refine ⟨by omega, ?_⟩
    unfold PS
    rw [bytes_len]
    split at h
    · rename_i ys hy
      rw [hy]
      exact congrArg _ (by injection h)
    · cases h
theorem PS_count : ∀ (n : Nat) (l : List UInt8) (acc xs : List Pr), l.length ≤ n → PS l acc = .inl xs → xs.length ≤ acc.length + l.length + 1
  | n, l, acc, xs, hn, h => by
    rw [PS_eq] at h
    cases hb : (blanksS (predS ⟨l, none⟩).2).bad with
    | some m => rw [hb] at h; cases h
    | none =>
      rw [hb] at h
      simp only at h
      by_cases hs : (blanksS (predS ⟨l, none⟩).2).l = []
      · rw [if_pos hs] at h
        cases h
        simp
      · rw [if_neg hs] at h
        unfold PN at h
        cases ha : (andS (blanksS (predS ⟨l, none⟩).2)).bad with
        | some m => rw [ha] at h; cases h
        | none =>
          rw [ha] at h
          have h1 := andS_lt hb ha
          have h2 := blanksS_le (predS ⟨l, none⟩).2
          have h3 : (predS ⟨l, none⟩).2.l.length ≤ l.length := predS_le (st := ⟨l, none⟩) rfl
          match n with
          | 0 => omega
          | n + 1 =>
            have := PS_count n _ _ _ (by omega) h
            simp at this
            omega
theorem parse_count {s : ByteArray} {xs : List Pr} (h : parseR s = .inl xs) : xs.length ≤ 301 := by
  obtain ⟨h1, h2⟩ := parseR_ok h
  have := PS_count _ _ _ _ (Nat.le_refl _) h2
  rw [bytes_len] at this
  simp at this
  omega
theorem ba_ext {a b : ByteArray} (h : a.data.toList = b.data.toList) : a = b := by
  rcases a with ⟨⟨l⟩⟩
  rcases b with ⟨⟨l'⟩⟩
  simp at h
  rw [h]
theorem conv1 (w : World) (c : Int) : (convert 161 9 (.slice (some ⟨w.heap.size, 0, none⟩) 1 1)).run Try.prog (w.alloc (.cells #[.int .u8 c] 5)) = .ok (.string ⟨#[UInt8.ofNat c.toNat]⟩) (w.alloc (.cells #[.int .u8 c] 5)) := by
  have e : (⟨#[UInt8.ofNat c.toNat]⟩ : ByteArray) = strOfNums [c] := rfl
  rw [e]
  refine run_convert_bytes_arg _ 161 5 Try.underlying161 Try.underlying5 w.heap.size 0 1 1 [c] rfl (fun i hi => ?_) 9 Try.underlying9
  obtain rfl : i = 0 := by omega
  go_simp
  try rfl
def isName : List UInt8 → Bool
  | [] => false
  | c :: r => isL c && r.all isA
def isChar (c : UInt8) : Bool := decide (32 ≤ c ∧ c ≤ 126)
end Go.Proofs.Ytlokmijoaocofaa.Mine
end
section
/-
  A region that draws its order, whose operations only read and whose callees leave all that was as it was (Below): walked once, in the text's order.
-/
namespace Go.Proofs.Ytlokmijoaocofaa.Mine
open Go.RowKit Go.Proofs.YtlokmijoaocofaaW.PrintWords

structure BelowP (W : World) where
  w : World
  h : Below W.heap.size W w
instance BelowP.inh (W : World) : Inhabited (BelowP W) := ⟨⟨W, Below.refl _ _⟩⟩
theorem BelowP.cell {W : World} {a : Addr} {v : Value} (h : W.cell? a = some v) (p : BelowP W) : p.w.cell? a = some v := (p.h.cell (World.block_lt_of_cell? W _ h)).trans h
theorem wp_region_quiet_below {P : Program} {id : Nat} {Q : Exit → Act → World → Prop} {a : Act} {W : World} {l : List Oper} (hm : P.follows .mixedOrders = true) (hB : Region.lexB .any l.toArray = true)
    (h : wpQuiet P l.toArray (fun w' => ∃ p : BelowP W, w' = p.w) (fun a' => ∀ w', (∃ p : BelowP W, w' = p.w) → Q .normal a' w') l a) : (Code.region id l.toArray true).wp P Q a W :=
  wp_region_quiet (C := fun w' => ∃ p : BelowP W, w' = p.w) hm hB ⟨⟨W.drew, (Below.refl _ _).drew⟩, rfl⟩ (by simpa using h)
theorem Calls.below_of {P : Program} {f : FuncId} {args : Array Value} {W : World} {p : BelowP W} {v : Value}
    (h : Calls P f args p.w fun e w' => e = .returned v ∧ Below p.w.heap.size p.w w') : Calls P f args p.w fun e w'' => e = .returned v ∧ ∃ q : BelowP W, w'' = q.w :=
  h.mono fun _ w' ⟨he, hb⟩ => ⟨he, ⟨w', below_then p.h p.h.size hb⟩, rfl⟩
end Go.Proofs.Ytlokmijoaocofaa.Mine
end
section
/-
  slices.IndexFunc, slices.ContainsFunc at a schema's attributes and a filter's predicates, walked for whatever predicate that reads alone; Schema.Find. Conditions: the slices at most 1000 long.
-/
namespace Go.Proofs.Ytlokmijoaocofaa.Mine
open Go.RowKit Go.Proofs.YtlokmijoaocofaaW.PrintWords Go.Proofs.YtlokmijoaocofaaW.PrintLast Go.Proofs.YtlokmijoaocofaaW.PrintMore
open Go.Proofs.Ytlokmijoaocofaa.PBoardAgain
def idxFrom {α : Type} (p : α → Bool) : List α → Nat → Int
  | [], _ => -1
  | x :: r, i => if p x then (i : Int) else idxFrom p r (i + 1)
def idxB {α : Type} (p : α → Bool) (l : List α) : Int := idxFrom p l 0
/-- A function value that answers p, and leaves all that was as it was. -/
def CloAt {α : Type} (g : Nat) (lb : Array Value) (enc : α → Value) (p : α → Bool) (w : World) : Prop :=
  ∀ (W : World) (x : α), Below w.heap.size w W → Calls Try.prog g (#[enc x] ++ lb) W fun e w' => e = .returned (.bool (p x)) ∧ Below W.heap.size W w'
/-- .. on the elements of a list. -/
def CloOn {α : Type} (g : Nat) (lb : Array Value) (enc : α → Value) (p : α → Bool) (w : World) (L : List α) : Prop :=
  ∀ (W : World) (x : α), x ∈ L → Below w.heap.size w W → Calls Try.prog g (#[enc x] ++ lb) W fun e w' => e = .returned (.bool (p x)) ∧ Below W.heap.size W w'
theorem CloAt.on {α : Type} {g : Nat} {lb : Array Value} {enc : α → Value} {p : α → Bool} {w : World} (h : CloAt g lb enc p w) (L : List α) : CloOn g lb enc p w L := fun W x _ hb => h W x hb
def enc46 (x : S119) : Value := .agg #[.string x.f0, .int .i64 x.f1, .int .i64 x.f2, .int .i64 x.f3, .string x.f4]
def enc95 (x : S65) : Value := .agg #[.string x.f0, .int .i64 x.f1, .int .i64 x.f2, .int .i64 x.f3]
set_option maxHeartbeats 1000000 in
set_option maxRecDepth 100000 in
theorem idx46_calls (g : Nat) (lb : Array Value) (p : S119 → Bool) (A : Option Addr) (n c : Nat) (L : List S119) (w : World) (eg : ∀ args w, (callFunc g args).run Try.prog w = .ok (.enter g args) w) (hn : L.length = n) (hr : Kd.C k119 w A n L) (hl : n ≤ 100000)
    (hp : CloOn g lb enc46 p w L) :
    Calls Try.prog 57 #[.slice A n c, .func (.func g) #[] lb] w fun e w' => e = .returned (.int .i64 (idxB p L)) ∧ Below w.heap.size w w' := by
  have HR := Aside0.mk hr
  have HP := Aside0.mk hp
  have HN := Aside0.mk hn
  clear hr hp hn
  go_enter Try.func57, Try.ntmps57
  go_wp2_with fail
  go_loopg [5, 8] (n + 1) (fun k v5 v8 W => ∃ i : Nat, Aside0 (i ≤ n ∧ k + i = n + 1 ∧ idxB p L = idxFrom p (L.drop i) i) ∧ v8 = .int .i64 (i : Int) ∧ Aside0 (Below w.heap.size w W))
  case atStart => exact ⟨0, ⟨by omega, by omega, rfl⟩, rfl, ⟨Below.refl _ _⟩⟩
  case round =>
    obtain ⟨i, HM, rfl, HB⟩ := hrel
    by_cases hi : i < n
    · have b1 : decide ((i : Int) < (n : Int)) = true := decide_eq_true (by omega)
      have b2 : decide (i < n) = true := decide_eq_true (by omega)
      have p1 : (0 : Int) ≤ (i : Int) := by omega
      have p2 : (i : Int) < (n : Int) := by omega
      obtain ⟨ad, e, hcs⟩ := at_T119 HR.out i p1 p2
      cases e
      rw [Int.toNat_natCast] at hcs
      have hrd : rd_T119 L (i : Int) = L.getD i z119 := rfl
      rw [hrd] at hcs
      have hdr : L.drop i = L.getD i z119 :: L.drop (i + 1) := by
        rw [List.drop_eq_getElem_cons (by have := HN.out; omega), List.getD_eq_getElem?_getD, List.getElem?_eq_getElem (by have := HN.out; omega)]
        rfl
      have HD := Aside0.mk hdr
      have HCL := Aside0.mk (HP.out _ (L.getD i z119) (by rw [List.getD_eq_getElem?_getD, List.getElem?_eq_getElem (by have := HN.out; omega)]; exact List.getElem_mem _) HB.out)
      clear hrd hdr
      generalize L.getD i z119 = x at hcs HD HCL
      cases hpx : p x with
      | true =>
        have HX := Aside0.mk hpx
        clear hpx
        rw [HX.out] at HCL
        obtain ⟨h0, h1, h2, h3, h4⟩ := hcs; replace h0 := (HB.out.cell (World.block_lt_of_cell? w _ h0)).trans h0; replace h1 := (HB.out.cell (World.block_lt_of_cell? w _ h1)).trans h1; replace h2 := (HB.out.cell (World.block_lt_of_cell? w _ h2)).trans h2; replace h3 := (HB.out.cell (World.block_lt_of_cell? w _ h3)).trans h3; replace h4 := (HB.out.cell (World.block_lt_of_cell? w _ h4)).trans h4
        go_wp2_with fail
        refine HCL.out.mono ?_
        rintro e w2 ⟨rfl, hb⟩
        have n_ := Aside0.mk (below_then HB.out HB.out.size hb)
        clear HB hb
        have HB := n_
        clear n_
        go_wp2
        go_ret
        exact ⟨by rw [HM.out.2.2, HD.out]; simp [idxFrom, HX.out], HB.out⟩
      | false =>
        have HX := Aside0.mk hpx
        clear hpx
        rw [HX.out] at HCL
        obtain ⟨h0, h1, h2, h3, h4⟩ := hcs; replace h0 := (HB.out.cell (World.block_lt_of_cell? w _ h0)).trans h0; replace h1 := (HB.out.cell (World.block_lt_of_cell? w _ h1)).trans h1; replace h2 := (HB.out.cell (World.block_lt_of_cell? w _ h2)).trans h2; replace h3 := (HB.out.cell (World.block_lt_of_cell? w _ h3)).trans h3; replace h4 := (HB.out.cell (World.block_lt_of_cell? w _ h4)).trans h4
        go_wp2_with fail
        refine HCL.out.mono ?_
        rintro e w2 ⟨rfl, hb⟩
        have n_ := Aside0.mk (below_then HB.out HB.out.size hb)
        clear HB hb
        have HB := n_
        clear n_
        go_wp2_with fail
        go_roundg (gk - 1)
        case measure => have := HM.out; omega
        case rel => exact ⟨i + 1, ⟨by omega, by have := HM.out; omega, by rw [HM.out.2.2, HD.out]; simp [idxFrom, HX.out]⟩, rfl, HB⟩
    · have b1 : decide ((i : Int) < (n : Int)) = false := decide_eq_false (by omega)
      have b2 : decide (i < n) = false := decide_eq_false (by omega)
      have hd : L.drop i = [] := List.drop_eq_nil_iff.2 (by have := HN.out; omega)
      have HE := Aside0.mk hd
      clear hd hi
      go_wp2
      go_ret
      exact ⟨by rw [HM.out.2.2, HE.out]; rfl, HB.out⟩
set_option maxHeartbeats 1000000 in
set_option maxRecDepth 100000 in
theorem idx95_calls (g : Nat) (lb : Array Value) (p : S65 → Bool) (A : Option Addr) (n c : Nat) (L : List S65) (w : World) (eg : ∀ args w, (callFunc g args).run Try.prog w = .ok (.enter g args) w) (hn : L.length = n) (hr : Kd.C k65 w A n L) (hl : n ≤ 100000)
    (hp : CloOn g lb enc95 p w L) :
    Calls Try.prog 50 #[.slice A n c, .func (.func g) #[] lb] w fun e w' => e = .returned (.int .i64 (idxB p L)) ∧ Below w.heap.size w w' := by
  have HR := Aside0.mk hr
  have HP := Aside0.mk hp
  have HN := Aside0.mk hn
  clear hr hp hn
  go_enter Try.func50, Try.ntmps50
  go_wp2_with fail
  go_loopg [5, 8] (n + 1) (fun k v5 v8 W => ∃ i : Nat, Aside0 (i ≤ n ∧ k + i = n + 1 ∧ idxB p L = idxFrom p (L.drop i) i) ∧ v8 = .int .i64 (i : Int) ∧ Aside0 (Below w.heap.size w W))
  case atStart => exact ⟨0, ⟨by omega, by omega, rfl⟩, rfl, ⟨Below.refl _ _⟩⟩
  case round =>
    obtain ⟨i, HM, rfl, HB⟩ := hrel
    by_cases hi : i < n
    · have b1 : decide ((i : Int) < (n : Int)) = true := decide_eq_true (by omega)
      have b2 : decide (i < n) = true := decide_eq_true (by omega)
      have p1 : (0 : Int) ≤ (i : Int) := by omega
      have p2 : (i : Int) < (n : Int) := by omega
      obtain ⟨ad, e, hcs⟩ := at_T65 HR.out i p1 p2
      cases e
      rw [Int.toNat_natCast] at hcs
      have hrd : rd_T65 L (i : Int) = L.getD i z65 := rfl
      rw [hrd] at hcs
      have hdr : L.drop i = L.getD i z65 :: L.drop (i + 1) := by
        rw [List.drop_eq_getElem_cons (by have := HN.out; omega), List.getD_eq_getElem?_getD, List.getElem?_eq_getElem (by have := HN.out; omega)]
        rfl
      have HD := Aside0.mk hdr
      have HCL := Aside0.mk (HP.out _ (L.getD i z65) (by rw [List.getD_eq_getElem?_getD, List.getElem?_eq_getElem (by have := HN.out; omega)]; exact List.getElem_mem _) HB.out)
      clear hrd hdr
      generalize L.getD i z65 = x at hcs HD HCL
      cases hpx : p x with
      | true =>
        have HX := Aside0.mk hpx
        clear hpx
        rw [HX.out] at HCL
        obtain ⟨h0, h1, h2, h3⟩ := hcs; replace h0 := (HB.out.cell (World.block_lt_of_cell? w _ h0)).trans h0; replace h1 := (HB.out.cell (World.block_lt_of_cell? w _ h1)).trans h1; replace h2 := (HB.out.cell (World.block_lt_of_cell? w _ h2)).trans h2; replace h3 := (HB.out.cell (World.block_lt_of_cell? w _ h3)).trans h3
        go_wp2_with fail
        refine HCL.out.mono ?_
        rintro e w2 ⟨rfl, hb⟩
        have n_ := Aside0.mk (below_then HB.out HB.out.size hb)
        clear HB hb
        have HB := n_
        clear n_
        go_wp2
        go_ret
        exact ⟨by rw [HM.out.2.2, HD.out]; simp [idxFrom, HX.out], HB.out⟩
      | false =>
        have HX := Aside0.mk hpx
        clear hpx
        rw [HX.out] at HCL
        obtain ⟨h0, h1, h2, h3⟩ := hcs; replace h0 := (HB.out.cell (World.block_lt_of_cell? w _ h0)).trans h0; replace h1 := (HB.out.cell (World.block_lt_of_cell? w _ h1)).trans h1; replace h2 := (HB.out.cell (World.block_lt_of_cell? w _ h2)).trans h2; replace h3 := (HB.out.cell (World.block_lt_of_cell? w _ h3)).trans h3
        go_wp2_with fail
        refine HCL.out.mono ?_
        rintro e w2 ⟨rfl, hb⟩
        have n_ := Aside0.mk (below_then HB.out HB.out.size hb)
        clear HB hb
        have HB := n_
        clear n_
        go_wp2_with fail
        go_roundg (gk - 1)
        case measure => have := HM.out; omega
        case rel => exact ⟨i + 1, ⟨by omega, by have := HM.out; omega, by rw [HM.out.2.2, HD.out]; simp [idxFrom, HX.out]⟩, rfl, HB⟩
    · have b1 : decide ((i : Int) < (n : Int)) = false := decide_eq_false (by omega)
      have b2 : decide (i < n) = false := decide_eq_false (by omega)
      have hd : L.drop i = [] := List.drop_eq_nil_iff.2 (by have := HN.out; omega)
      have HE := Aside0.mk hd
      clear hd hi
      go_wp2
      go_ret
      exact ⟨by rw [HM.out.2.2, HE.out]; rfl, HB.out⟩
theorem idxFrom_range {α : Type} (p : α → Bool) : ∀ (l : List α) (i : Nat), (idxFrom p l i = -1 ∧ l.any p = false) ∨ ((i : Int) ≤ idxFrom p l i ∧ l.any p = true)
  | [], _ => Or.inl ⟨rfl, rfl⟩
  | x :: r, i => by
    cases h : p x with
    | true => exact Or.inr ⟨by simp [idxFrom, h], by simp [h]⟩
    | false =>
      rcases idxFrom_range p r (i + 1) with ⟨h1, h2⟩ | ⟨h1, h2⟩
      · exact Or.inl ⟨by simp [idxFrom, h, h1], by simp [h, h2]⟩
      · exact Or.inr ⟨by simp only [idxFrom, h]; simp; omega, by simp [h, h2]⟩
theorem idxB_any {α : Type} (p : α → Bool) (l : List α) : decide (0 ≤ idxB p l) = l.any p := by
  rcases idxFrom_range p l 0 with ⟨h1, h2⟩ | ⟨h1, h2⟩
  · rw [h2]
    unfold idxB
    rw [h1]
    rfl
  · rw [h2]
    exact decide_eq_true h1
theorem cont46_calls (g : Nat) (lb : Array Value) (p : S119 → Bool) (A : Option Addr) (n c : Nat) (L : List S119) (w : World) (eg : ∀ args w, (callFunc g args).run Try.prog w = .ok (.enter g args) w) (hn : L.length = n) (hr : Kd.C k119 w A n L) (hl : n ≤ 100000)
    (hp : CloOn g lb enc46 p w L) :
    Calls Try.prog 41 #[.slice A n c, .func (.func g) #[] lb] w fun e w' => e = .returned (.bool (L.any p)) ∧ Below w.heap.size w w' := by
  have HC := Aside0.mk (idx46_calls g lb p A n c L w eg hn hr hl hp)
  have HX := Aside0.mk (idxB_any p L)
  generalize idxB p L = z at HC HX
  clear hr hn hp
  go_enter Try.func41, Try.ntmps41
  go_wp2_with fail
  refine HC.out.mono ?_
  rintro e w2 ⟨rfl, hb⟩
  go_wp2
  go_ret
  exact ⟨by rw [← HX.out]; rfl, hb⟩
theorem find_clo (nm : ByteArray) (B : Nat) (w : World) (hc : w.cell? ⟨B, 0, none⟩ = some (.string nm)) : CloAt 59 #[.pointer (some ⟨B, 0, none⟩)] enc95 (fun x => x.f0.toList == nm.toList) w := fun W x hb => by
  have h0 := (hb.cell (World.block_lt_of_cell? w _ hc)).trans hc
  have hlt := World.block_lt_of_cell? W _ h0
  show Calls _ _ #[enc95 x, .pointer (some ⟨B, 0, none⟩)] W _
  unfold enc95
  go_enter Try.func59, Try.ntmps59
  go_wp2
  go_ret
  exact ⟨rfl, below_alloc (Below.refl _ _) _⟩
theorem same_clo (nm : ByteArray) (B : Nat) (w : World) (hc : w.cell? ⟨B, 0, none⟩ = some (.string nm)) : CloAt 55 #[.pointer (some ⟨B, 0, none⟩)] enc46 (fun x => x.f0.toList == nm.toList) w := fun W x hb => by
  have h0 := (hb.cell (World.block_lt_of_cell? w _ hc)).trans hc
  have hlt := World.block_lt_of_cell? W _ h0
  show Calls _ _ #[enc46 x, .pointer (some ⟨B, 0, none⟩)] W _
  unfold enc46
  go_enter Try.func55, Try.ntmps55
  go_wp2
  go_ret
  exact ⟨rfl, below_alloc (Below.refl _ _) _⟩
def findB (nm : ByteArray) (L : List S65) : Int := idxB (fun x => x.f0.toList == nm.toList) L
theorem find_calls (A : Option Addr) (n c : Nat) (L : List S65) (nm : ByteArray) (w : World) (hn : L.length = n) (hr : Kd.C k65 w A n L) (hl : n ≤ 100000) :
    Calls Try.prog 44 #[.slice A n c, .string nm] w fun e w' => e = .returned (.int .i64 (findB nm L)) ∧ Below w.heap.size w w' := by
  have hb := below_alloc (Below.refl w.heap.size w) (.cells #[.string nm] 9)
  have hcl := find_clo nm w.heap.size (w.alloc (.cells #[.string nm] 9)) (cell_of_row _ _ 0 _ _ _ (heap_alloc_new w _))
  have HC := Aside0.mk (idx95_calls _ _ _ A n c L (w.alloc (.cells #[.string nm] 9)) (enters_of Try.func59 (by kernel_rfl) rfl) hn (Kd.C_below hr hb) hl (hcl.on L))
  clear hr hn hcl
  go_enter Try.func44, Try.ntmps44
  go_wp2_with fail
  refine HC.out.mono ?_
  rintro e w2 ⟨rfl, hb2⟩
  go_wp2
  go_ret
  exact ⟨rfl, below_then hb hb.size hb2⟩
theorem vfault_calls (i c : Int) (w : World) : Calls Try.prog 34 #[.int .i64 i, .int .i64 c] w fun e w' => ∃ b, w.heap.size ≤ b ∧ e = .returned (.iface 103 (.pointer (some ⟨b, 0, none⟩))) ∧ IsFault w' b ⟨#[118, 97, 108, 117, 101]⟩ i c ∧ Below w.heap.size w w' := by
  go_enter Try.func34, Try.ntmps34
  go_wp2
  go_ret
  exact ⟨w.heap.size, Nat.le_refl _, rfl, heap_alloc_new w _, below_alloc (Below.refl _ _) _⟩
end Go.Proofs.Ytlokmijoaocofaa.Mine
end
section
/-
  DERIVED: THE SHELF's CONTRACTS AT THIS DUMP, IN PLAIN WORDS (tools/lay-plain.mjs out of 'YtlokmijoaocofaaShelfA.lean', which tools/lay-shelf.mjs wrote): THE SAME DECLARATIONS UNDER THE SAME NAMES: 'import', 'namespace', 'open', 'def', 'theorem' AND NOTHING ELSE: no command of the shelf's: FOR A HAND-IN. Each laying: the table of numbers ('.._ren') and one theorem, a field a fact of the dump's own or the kernel's comparison; each contract: ONE APPLICATION.
-/
namespace Go.Proofs
open Go.Shelf
def Try.laysGw17_ren : Go.Shelf.Ren := ⟨fun | 17 => 48 | 15 => 70 | 20 => 83 | n => n, fun | 9 => 9 | 23 => 128 | 4 => 4 | 3 => 3 | 0 => 0 | 21 => 21 | n => n, fun | n => n⟩
theorem Try.laysGw17 : Go.Proofs.LaysGw.n17 Try.prog Try.laysGw17_ren := {
  mixed := by kernel_rfl
  f15 := Try.func70.trans (congrArg some (by kernel_rfl))
  f17 := Try.func48.trans (congrArg some (by kernel_rfl))
  f20 := Try.func83.trans (congrArg some (by kernel_rfl))
  t0 := Try.underlying0
  a0 := Try.isAgg0
  z0 := Try.sizeOf0
  v0 := Try.zeroValue0
  i0 := by kernel_rfl
  t3 := Try.underlying3
  a3 := Try.isAgg3
  z3 := Try.sizeOf3
  v3 := Try.zeroValue3
  i3 := by kernel_rfl
  t4 := Try.underlying4
  a4 := Try.isAgg4
  z4 := Try.sizeOf4
  v4 := Try.zeroValue4
  i4 := by kernel_rfl
  t9 := Try.underlying9
  a9 := Try.isAgg9
  z9 := Try.sizeOf9
  v9 := Try.zeroValue9
  i9 := by kernel_rfl
  t21 := Try.underlying21
  a21 := Try.isAgg21
  z21 := Try.sizeOf21
  v21 := Try.zeroValue21
  i21 := by kernel_rfl
  t23 := Try.underlying128
  a23 := Try.isAgg128
  z23 := Try.sizeOf128
  v23 := Try.zeroValue128
  i23 := by kernel_rfl }
open Go.RowKit Go.Lib in
theorem Try.strings_ContainsFunc (g : Nat) (lb : Array Value) (eg : ∀ args w, (callFunc g args).run Try.prog w = .ok (.enter g args) w) (p : Nat → Bool) (s : ByteArray) (w : World) (hp : PredAt Try.prog g lb encR p w) :
    Calls Try.prog 48 #[.string s, .func (.func g) #[] lb] w fun e w' => e = .returned (.bool (decide (0 ≤ Lib.idxFunc p true s))) ∧ Below w.heap.size w w' := Any.strings_ContainsFunc Try.laysGw17 g lb eg p s w hp
end Go.Proofs
end
section
/-
  value.Str walked: may a text be a value? Condition: none.
-/
namespace Go.Proofs.Ytlokmijoaocofaa.Mine
open Go.RowKit Go.Proofs.YtlokmijoaocofaaW.PrintWords Go.Lib
theorem decode_hi (s : ByteArray) (i : Nat) (hi : i < s.size) (h : 128 ≤ (s[i]'hi).toNat) : 128 ≤ (Utf8.decode s i).1 := by
  have hg : s.get! i = s[i]'hi := by simp [ByteArray.get!, hi]; rfl
  rw [decode_at, hg]
  generalize (s[i]'hi).toNat = b0 at h
  generalize (s.get! (i + 1)).toNat = b1
  generalize (s.get! (i + 2)).toNat = b2
  generalize (s.get! (i + 3)).toNat = b3
  unfold decodeN
  repeat' split
  all_goals first | (exfalso; omega) | (simp only; omega)
def badR (r : Nat) : Bool := decide (r < 32) || decide (126 < r)
theorem idx_chars (s : ByteArray) : ∀ (f i : Nat), s.size - i ≤ f → i ≤ s.size → (decide (0 ≤ idxFuncFrom badR true s f i) = !((s.data.toList.drop i).all isChar))
  | 0, i, hf, hi => by
    have : i = s.size := by omega
    have hd : s.data.toList.drop i = [] := List.drop_eq_nil_iff.2 (by rw [Array.length_toList]; exact Nat.le_of_eq this.symm)
    rw [hd]
    rfl
  | f + 1, i, hf, hi => by
    by_cases hlt : i < s.size
    · have hd : s.data.toList.drop i = (s[i]'hlt) :: s.data.toList.drop (i + 1) := by
        rw [List.drop_eq_getElem_cons (by rw [Array.length_toList]; exact hlt)]
        rfl
      rw [hd, List.all_cons]
      unfold idxFuncFrom
      rw [if_pos hlt]
      by_cases ha : (s[i]'hlt).toNat < 128
      · rw [decode_ascii s i hlt ha]
        have hc : badR (s[i]'hlt).toNat = !(isChar (s[i]'hlt)) := by
          simp only [badR, isChar, UInt8.le_iff_toNat_le]
          have e1 : (32 : UInt8).toNat = 32 := rfl
          have e2 : (126 : UInt8).toNat = 126 := rfl
          rw [e1, e2, Bool.eq_iff_iff]
          simp only [Bool.or_eq_true, decide_eq_true_eq, Bool.not_eq_true', decide_eq_false_iff_not]
          omega
        simp only [hc]
        cases hx : isChar (s[i]'hlt) with
        | false => simp
        | true =>
          simp only [Bool.not_true, Bool.true_and]
          rw [if_neg (by simp)]
          exact idx_chars s f (i + 1) (by omega) (by omega)
      · have hd := decode_hi s i hlt (by omega)
        have hb : badR (Utf8.decode s i).1 = true := by
          simp only [badR, Bool.or_eq_true, decide_eq_true_eq]
          omega
        have hx : isChar (s[i]'hlt) = false := by
          simp only [isChar, UInt8.le_iff_toNat_le]
          have e2 : (126 : UInt8).toNat = 126 := rfl
          rw [e2]
          simp
          omega
        rw [if_pos hb, hx]
        simp
    · have : i = s.size := by omega
      have hd : s.data.toList.drop i = [] := List.drop_eq_nil_iff.2 (by rw [Array.length_toList]; exact Nat.le_of_eq this.symm)
      rw [hd, idxFuncFrom_end _ _ _ _ _ hlt]
      rfl
theorem str_pred (w : World) : PredAt Try.prog 76 #[] encR badR w := fun W r _ => by
  unfold FnGives
  by_cases h1 : r < 32 <;> by_cases h2 : 126 < r
  all_goals
    have z1 : (r : Int) < 32 ↔ r < 32 := by omega
    have z2 : (126 : Int) < (r : Int) ↔ 126 < r := by omega
    go_enter Try.func76, Try.ntmps76
    go_wp2
    all_goals first | (exfalso; omega) | (go_ret; exact ⟨by simp [badR, h1, h2], 0, rfl⟩)
def strOk (s : ByteArray) : Bool := decide (s.size ≤ 40) && s.data.toList.all isChar
theorem str_calls (s : ByteArray) (w : World) : Calls Try.prog 56 #[.string s] w fun e w' => e = .returned (.bool (strOk s)) ∧ Below w.heap.size w w' := by
  have hC := fun W => Try.strings_ContainsFunc 76 #[] (enters_of Try.func76 (by kernel_rfl) rfl) badR s W (str_pred W)
  have hX : decide (0 ≤ Lib.idxFunc badR true s) = !(s.data.toList.all isChar) := idx_chars s s.size 0 (by omega) (by omega)
  by_cases h : s.size ≤ 40
  · have h1 : decide ((s.size : Int) ≤ 40) = true := decide_eq_true (by omega)
    have h2 : decide (s.size ≤ 40) = true := decide_eq_true h
    have HX := Aside0.mk hX
    have HC := Aside0.mk hC
    clear hX hC
    go_enter Try.func56, Try.ntmps56
    go_wp2_with fail
    refine (HC.out _).mono ?_
    rintro e w1 ⟨rfl, hb⟩
    rw [HX.out]
    go_wp2
    go_ret
    exact ⟨by simp [strOk, h2], hb⟩
  · have h1 : decide ((s.size : Int) ≤ 40) = false := decide_eq_false (by omega)
    have h2 : decide (s.size ≤ 40) = false := decide_eq_false h
    clear hX hC
    go_enter Try.func56, Try.ntmps56
    go_wp2
    go_ret
    exact ⟨by simp [strOk, h2], Below.refl _ _⟩
end Go.Proofs.Ytlokmijoaocofaa.Mine
end
section
/-
  value.Schema.Filter, walked. Conditions: the slices at most 100000 long.
-/
namespace Go.Proofs.Ytlokmijoaocofaa.Mine
open Go.RowKit Go.Proofs.YtlokmijoaocofaaW.PrintWords Go.Proofs.YtlokmijoaocofaaW.PrintLast Go.Proofs.YtlokmijoaocofaaW.PrintMore
open Go.Proofs.Ytlokmijoaocofaa.PBoardAgain
def predOk (a : S65) (p : S119) : Bool :=
  if p.f1 = 1 then (a.f1 == 1) && decide (a.f2 ≤ p.f2) && decide (p.f3 ≤ a.f3) && decide (p.f2 ≤ p.f3) && (p.f4.toList == [])
  else if p.f1 = 2 ∨ (p.f1 = 3 ∧ p.f4.toList ≠ []) then (a.f1 == 2) && (p.f2 == 0) && (p.f3 == 0) && strOk p.f4
  else false
def okAt (S : List S65) (F : List S119) (i : Nat) : Bool :=
  decide (0 ≤ findB (F.getD i z119).f0 S) && !((F.take i).any fun x => x.f0.toList == (F.getD i z119).f0.toList) && predOk (S.getD (findB (F.getD i z119).f0 S).toNat z65) (F.getD i z119)
def badFrom (S : List S65) (F : List S119) : Nat → Nat → Option Nat
  | 0, _ => none
  | k + 1, i => if okAt S F i then badFrom S F k (i + 1) else some i
/-- The first predicate that is none of the schema's; none: there is none. -/
def filterBad (S : List S65) (F : List S119) : Option Nat := if F.length < 1 ∨ 4 < F.length then some 0 else badFrom S F F.length 0
def FilterPost (w : World) (S : List S65) (F : List S119) (e : Ending) (w' : World) : Prop :=
  match filterBad S F with
  | none => e = .returned .nilIface ∧ Below w.heap.size w w'
  | some i => ∃ b, w.heap.size ≤ b ∧ e = .returned (.iface 103 (.pointer (some ⟨b, 0, none⟩))) ∧ IsFault w' b ⟨#[118, 97, 108, 117, 101]⟩ (i : Int) 3 ∧ Below w.heap.size w w'
theorem fp_bad {w w' : World} {S : List S65} {F : List S119} {e : Ending} {i : Nat} (h : filterBad S F = some i) (ho : ∃ b, w.heap.size ≤ b ∧ e = .returned (.iface 103 (.pointer (some ⟨b, 0, none⟩))) ∧ IsFault w' b ⟨#[118, 97, 108, 117, 101]⟩ (i : Int) 3 ∧ Below w.heap.size w w') : FilterPost w S F e w' := by
  unfold FilterPost
  rw [h]
  exact ho
theorem fp_ok {w w' : World} {S : List S65} {F : List S119} {e : Ending} (h : filterBad S F = none) (ho : e = .returned .nilIface ∧ Below w.heap.size w w') : FilterPost w S F e w' := by
  unfold FilterPost
  rw [h]
  exact ho
theorem C_take {α : Type} {d : Kd α} {w : World} {A : Option Addr} {n : Nat} {xs : List α} (h : Kd.C d w A n xs) (i : Nat) (hi : i ≤ n) : Kd.C d w A i (xs.take i) := by
  refine ⟨by rw [List.length_take]; have := h.1; omega, by have := h.2.1; omega, fun h0 => ?_⟩
  obtain ⟨ad, e, hc⟩ := h.2.2 (by omega)
  refine ⟨ad, e, fun j q hj => hc j q ?_⟩
  rw [List.getElem?_take] at hj
  split at hj
  · exact hj
  · cases hj
theorem okAt_no1 {S : List S65} {F : List S119} {i : Nat} (h : findB (F.getD i z119).f0 S < 0) : okAt S F i = false := by
  unfold okAt
  rw [decide_eq_false (by omega)]
  rfl
theorem okAt_no2 {S : List S65} {F : List S119} {i : Nat} (h : ((F.take i).any fun x => x.f0.toList == (F.getD i z119).f0.toList) = true) : okAt S F i = false := by
  unfold okAt
  rw [h]
  simp
theorem okAt_is {S : List S65} {F : List S119} {i : Nat} (h0 : 0 ≤ findB (F.getD i z119).f0 S) (h : ((F.take i).any fun x => x.f0.toList == (F.getD i z119).f0.toList) = false) : okAt S F i = predOk (S.getD (findB (F.getD i z119).f0 S).toNat z65) (F.getD i z119) := by
  unfold okAt
  rw [h, decide_eq_true h0]
  rfl
theorem idxFrom_lt {α : Type} (p : α → Bool) : ∀ (l : List α) (i : Nat), idxFrom p l i < (i : Int) + l.length
  | [], i => by simp only [idxFrom, List.length_nil]; omega
  | x :: r, i => by
    unfold idxFrom
    split
    · simp only [List.length_cons]; omega
    · have := idxFrom_lt p r (i + 1)
      simp only [List.length_cons]
      omega
theorem findB_lt (nm : ByteArray) (L : List S65) : findB nm L < (L.length : Int) := by
  have := idxFrom_lt (fun x : S65 => x.f0.toList == nm.toList) L 0
  unfold findB idxB
  omega
set_option maxHeartbeats 8000000 in
set_option maxRecDepth 100000 in
theorem filter_calls (A B : Option Addr) (n m c d : Nat) (S : List S65) (F : List S119) (w : World) (hn : S.length = n) (hm : F.length = m) (hr : Kd.C k65 w A n S) (hr2 : Kd.C k119 w B m F) (hl : n ≤ 100000) (hl2 : m ≤ 100000) (hcd : m ≤ d) :
    Calls Try.prog 39 #[.slice A n c, .slice B m d] w (FilterPost w S F) := by
  have HRS := Aside0.mk hr
  have HRF := Aside0.mk hr2
  have HN := Aside0.mk hn
  have HM := Aside0.mk hm
  clear hr hr2 hn hm
  by_cases hlen : m < 1 ∨ 4 < m
  · have HB := Aside0.mk (fun e w' ho => fp_bad (w := w) (w' := w') (S := S) (F := F) (e := e) (i := 0) (by unfold filterBad; rw [if_pos (by have := HM.out; omega)]) ho)
    generalize FilterPost w S F = POST at HB ⊢
    by_cases h1 : m < 1
    · have q1 : decide ((m : Int) < 1) = true := decide_eq_true (by omega)
      clear hlen
      obtain rfl : m = 0 := by omega
      go_enter Try.func39, Try.ntmps39
      go_wp2_with fail
      refine (vfault_calls _ _ _).mono ?_
      rintro e w1 ⟨b, h1, rfl, hf, hb⟩
      go_wp2
      try go_ret
      exact HB.out _ _ ⟨b, h1, rfl, hf, hb⟩
    · have q1 : decide ((m : Int) < 1) = false := decide_eq_false (by omega)
      have q2 : decide (4 < (m : Int)) = true := decide_eq_true (by omega)
      clear hlen
      go_enter Try.func39, Try.ntmps39
      go_wp2_with fail
      refine (vfault_calls _ _ _).mono ?_
      rintro e w1 ⟨b, h1, rfl, hf, hb⟩
      go_wp2
      try go_ret
      exact HB.out _ _ ⟨b, h1, rfl, hf, hb⟩
  · have q1 : decide ((m : Int) < 1) = false := decide_eq_false (by omega)
    have q2 : decide (4 < (m : Int)) = false := decide_eq_false (by omega)
    have HFB := Aside0.mk (show filterBad S F = badFrom S F m 0 by unfold filterBad; rw [if_neg (by have := HM.out; omega), HM.out])
    have HEP := Aside0.mk (fun i e w' h ho => fp_bad (w := w) (w' := w') (S := S) (F := F) (e := e) (i := i) h ho)
    have HOP := Aside0.mk (fun e w' h ho => fp_ok (w := w) (w' := w') (S := S) (F := F) (e := e) h ho)
    generalize FilterPost w S F = POST at HEP HOP ⊢
    clear hlen
    go_enter Try.func39, Try.ntmps39
    go_wp2_with fail
    go_loopg [5, 6, 7, 8, 20, 42, 44, 46] (m + 1) (fun k v5 v6 v7 v8 v20 v42 v44 v46 W => ∃ i : Nat, Aside0 (i ≤ m ∧ k + i = m + 1 ∧ filterBad S F = badFrom S F (m - i) i) ∧ v20 = .int .i64 (i : Int) ∧ Aside0 (Below w.heap.size w W))
    case atStart => exact ⟨0, ⟨by omega, by omega, HFB.out⟩, rfl, ⟨Below.refl _ _⟩⟩
    case round =>
      obtain ⟨i, HI, rfl, HB⟩ := hrel
      by_cases hi : i < m
      · have b1 : decide ((i : Int) < (m : Int)) = true := decide_eq_true (by omega)
        have b2 : decide (i < m) = true := decide_eq_true (by omega)
        have p1 : (0 : Int) ≤ (i : Int) := by omega
        have p2 : (i : Int) < (m : Int) := by omega
        have hstep : badFrom S F (m - i) i = if okAt S F i then badFrom S F (m - (i + 1)) (i + 1) else some i := by
          rw [show m - i = (m - (i + 1)) + 1 by omega]
          rfl
        have HST := Aside0.mk hstep
        clear hstep
        obtain ⟨ad, e, h0, h1, h2, h3, h4⟩ := at_T119 HRF.out i p1 p2
        cases e
        rw [Int.toNat_natCast] at h0 h1 h2 h3 h4
        replace h0 := (HB.out.cell (World.block_lt_of_cell? w _ h0)).trans h0
        replace h1 := (HB.out.cell (World.block_lt_of_cell? w _ h1)).trans h1
        replace h2 := (HB.out.cell (World.block_lt_of_cell? w _ h2)).trans h2
        replace h3 := (HB.out.cell (World.block_lt_of_cell? w _ h3)).trans h3
        replace h4 := (HB.out.cell (World.block_lt_of_cell? w _ h4)).trans h4
        have hrd : rd_T119 F (i : Int) = F.getD i z119 := rfl
        rw [hrd] at h0 h1 h2 h3 h4
        obtain ⟨p, hp⟩ : ∃ p, p = F.getD i z119 := ⟨_, rfl⟩
        rw [← hp] at h0 h1 h2 h3 h4
        have HP := Aside0.mk hp
        clear hrd hp
        go_wp2_with fail
        refine (find_calls A n c S p.f0 _ HN.out (Kd.C_below HRS.out (below_alloc HB.out _)) hl).mono ?_
        rintro e w1 ⟨rfl, hb⟩
        have hnew := heap_alloc_new wr (.cells #[.string p.f0, .int .i64 p.f1, .int .i64 p.f2, .int .i64 p.f3, .string p.f4] 119 (0, 0))
        have KB6 := Aside0.mk ((hb.block _ (blk_lt hnew)).trans hnew)
        have n_ := Aside0.mk (below_then (below_alloc HB.out (.cells #[.string p.f0, .int .i64 p.f1, .int .i64 p.f2, .int .i64 p.f3, .string p.f4] 119)) (below_size (below_alloc HB.out _)) hb)
        clear HB hb hnew h0 h1 h2 h3 h4
        have HB := n_
        clear n_
        generalize wr.heap.size = g6 at KB6 ⊢
        have HLT := Aside0.mk (findB_lt p.f0 S)
        obtain ⟨kk, hkk⟩ : ∃ k, k = findB p.f0 S := ⟨_, rfl⟩
        rw [← hkk] at HLT ⊢
        have HK := Aside0.mk hkk
        clear hkk
        by_cases hneg : kk < 0
        · have n1 : decide (kk < 0) = true := decide_eq_true hneg
          have HE := Aside0.mk (fun e w' ho => HEP.out i e w' (by rw [HI.out.2.2, HST.out, okAt_no1 (by rw [← HP.out, ← HK.out]; exact hneg)]; rfl) ho)
          clear hneg
          go_wp2_with fail
          -- 'return fault(i, ..)'
          refine (vfault_calls _ _ _).mono ?_
          rintro e w9 ⟨b, hbl, rfl, hf, hb⟩
          have hfin := HE.out _ _ ⟨b, Nat.le_trans HB.out.size hbl, rfl, hf, below_then HB.out HB.out.size hb⟩
          clear hf hb hbl
          go_wp2
          try go_ret
          exact hfin
        · have n1 : decide (kk < 0) = false := decide_eq_false hneg
          obtain ⟨k, rfl⟩ := Int.eq_ofNat_of_zero_le (by omega : 0 ≤ kk)
          have hkn : k < n := by have := HLT.out; have := HN.out; omega
          have p3 : (i : Int) ≤ (d : Int) := by omega
          have HC := Aside0.mk (fun W (hW : Below w.heap.size w W ∧ W.cell? ⟨g6, 0, none⟩ = some (.string p.f0)) => cont46_calls 55 #[.pointer (some ⟨g6, 0, none⟩)] _ (some ad) i d (F.take i) W (enters_of Try.func55 (by kernel_rfl) rfl) (by rw [List.length_take]; have := HM.out; omega) (C_take (Kd.C_below HRF.out hW.1) i (by omega)) (by omega) ((same_clo p.f0 g6 W hW.2).on _))
          have q0 := (blk_cell KB6.out 0).trans (show _ = some (Value.string p.f0) from rfl)
          clear hneg
          go_wp2_with fail
          refine (HC.out _ ⟨HB.out, q0⟩).mono ?_
          rintro e w2 ⟨rfl, hb⟩
          have k_ := Aside0.mk ((hb.block _ (blk_lt KB6.out)).trans KB6.out)
          have n_ := Aside0.mk (below_then HB.out HB.out.size hb)
          clear KB6 HB hb q0
          have KB6 := k_
          have HB := n_
          clear k_ n_ HC
          cases hany : ((F.take i).any fun x => x.f0.toList == p.f0.toList) with
          | true =>
            have HE := Aside0.mk (fun e w' ho => HEP.out i e w' (by rw [HI.out.2.2, HST.out, okAt_no2 (by rw [← HP.out]; exact hany)]; rfl) ho)
            clear hany
            go_wp2_with fail
            -- 'return fault(i, ..)'
            refine (vfault_calls _ _ _).mono ?_
            rintro e w9 ⟨b, hbl, rfl, hf, hb⟩
            have hfin := HE.out _ _ ⟨b, Nat.le_trans HB.out.size hbl, rfl, hf, below_then HB.out HB.out.size hb⟩
            clear hf hb hbl
            go_wp2
            try go_ret
            exact hfin
          | false =>
            obtain ⟨a, ha⟩ : ∃ a, a = S.getD k z65 := ⟨_, rfl⟩
            have HOI := Aside0.mk (show okAt S F i = predOk a p by rw [okAt_is (by rw [← HP.out, ← HK.out]; omega) (by rw [← HP.out]; exact hany), ← HP.out, ← HK.out, Int.toNat_natCast, ha])
            clear hany
            obtain ⟨ad2, e, s0, s1, s2, s3⟩ := at_T65 (Kd.C_below HRS.out HB.out) (k : Int) (by omega) (by omega)
            cases e
            rw [Int.toNat_natCast] at s0 s1 s2 s3
            have hrd : rd_T65 S (k : Int) = S.getD k z65 := rfl
            rw [hrd, ← ha] at s0 s1 s2 s3
            clear hrd ha
            have y0 := (blk_cell KB6.out 0).trans (show _ = some (Value.string p.f0) from rfl)
            have y1 := (blk_cell KB6.out 1).trans (show _ = some (Value.int .i64 p.f1) from rfl)
            have y2 := (blk_cell KB6.out 2).trans (show _ = some (Value.int .i64 p.f2) from rfl)
            have y3 := (blk_cell KB6.out 3).trans (show _ = some (Value.int .i64 p.f3) from rfl)
            have y4 := (blk_cell KB6.out 4).trans (show _ = some (Value.string p.f4) from rfl)
            have pk0 : (0 : Int) ≤ (k : Int) := by omega
            have pk1 : (k : Int) < (n : Int) := by omega
            by_cases hf1 : p.f1 = 1
            · have o1 : (p.f1 == 1) = true := by simpa using hf1
              have HF1 := Aside0.mk hf1
              clear hf1
              by_cases t1 : a.f1 = 1
              · have e1 : (a.f1 == 1) = true := by simpa using t1
                by_cases t2 : a.f2 ≤ p.f2
                · have e2 : decide (a.f2 ≤ p.f2) = true := decide_eq_true t2
                  by_cases t3 : p.f3 ≤ a.f3
                  · have e3 : decide (p.f3 ≤ a.f3) = true := decide_eq_true t3
                    by_cases t4 : p.f2 ≤ p.f3
                    · have e4 : decide (p.f2 ≤ p.f3) = true := decide_eq_true t4
                      by_cases t5 : p.f4.toList = []
                      · have e5 : (p.f4.toList == []) = true := by simpa using t5
                        have hv : predOk a p = true := by unfold predOk; rw [if_pos HF1.out, e1, e2, e3, e4, e5]; rfl
                        have HV := Aside0.mk hv
                        clear hv t1 t2 t3 t4
                        go_wp2_with fail
                        go_quiet (fail)
                        go_wp2_with fail
                        go_roundg (gk - 1)
                        case measure => have := HI.out; omega
                        case rel => exact ⟨i + 1, ⟨by omega, by have := HI.out; omega, by rw [HI.out.2.2, HST.out, HOI.out, HV.out]; rfl⟩, rfl, ⟨pw_below_drewN HB.out _⟩⟩
                      · have e5 : (p.f4.toList == []) = false := by simpa using t5
                        have hv : predOk a p = false := by unfold predOk; rw [if_pos HF1.out, e1, e2, e3, e4, e5]; rfl
                        have HV := Aside0.mk hv
                        clear hv t1 t2 t3 t4
                        have HE := Aside0.mk (fun e w' ho => HEP.out i e w' (by rw [HI.out.2.2, HST.out, HOI.out, HV.out]; rfl) ho)
                        go_wp2_with fail
                        go_quiet (fail)
                        go_wp2_with fail
                        refine (vfault_calls _ _ _).mono ?_
                        rintro e w9 ⟨b, hbl, rfl, hf, hb⟩
                        have hfin := HE.out _ _ ⟨b, Nat.le_trans (pw_below_drewN HB.out _).size hbl, rfl, hf, below_then (pw_below_drewN HB.out _) (pw_below_drewN HB.out _).size hb⟩
                        clear hf hb hbl
                        go_wp2
                        try go_ret
                        exact hfin
                    · have e4 : decide (p.f2 ≤ p.f3) = false := decide_eq_false t4
                      have hv : predOk a p = false := by unfold predOk; rw [if_pos HF1.out, e1, e2, e3, e4]; rfl
                      have HV := Aside0.mk hv
                      clear hv t1 t2 t3 t4
                      have HE := Aside0.mk (fun e w' ho => HEP.out i e w' (by rw [HI.out.2.2, HST.out, HOI.out, HV.out]; rfl) ho)
                      go_wp2_with fail
                      go_quiet (fail)
                      go_wp2_with fail
                      refine (vfault_calls _ _ _).mono ?_
                      rintro e w9 ⟨b, hbl, rfl, hf, hb⟩
                      have hfin := HE.out _ _ ⟨b, Nat.le_trans (pw_below_drewN HB.out _).size hbl, rfl, hf, below_then (pw_below_drewN HB.out _) (pw_below_drewN HB.out _).size hb⟩
                      clear hf hb hbl
                      go_wp2
                      try go_ret
                      exact hfin
                  · have e3 : decide (p.f3 ≤ a.f3) = false := decide_eq_false t3
                    have hv : predOk a p = false := by unfold predOk; rw [if_pos HF1.out, e1, e2, e3]; rfl
                    have HV := Aside0.mk hv
                    clear hv t1 t2 t3
                    have HE := Aside0.mk (fun e w' ho => HEP.out i e w' (by rw [HI.out.2.2, HST.out, HOI.out, HV.out]; rfl) ho)
                    go_wp2_with fail
                    go_quiet (fail)
                    go_wp2_with fail
                    refine (vfault_calls _ _ _).mono ?_
                    rintro e w9 ⟨b, hbl, rfl, hf, hb⟩
                    have hfin := HE.out _ _ ⟨b, Nat.le_trans (pw_below_drewN HB.out _).size hbl, rfl, hf, below_then (pw_below_drewN HB.out _) (pw_below_drewN HB.out _).size hb⟩
                    clear hf hb hbl
                    go_wp2
                    try go_ret
                    exact hfin
                · have e2 : decide (a.f2 ≤ p.f2) = false := decide_eq_false t2
                  have hv : predOk a p = false := by unfold predOk; rw [if_pos HF1.out, e1, e2]; rfl
                  have HV := Aside0.mk hv
                  clear hv t1 t2
                  have HE := Aside0.mk (fun e w' ho => HEP.out i e w' (by rw [HI.out.2.2, HST.out, HOI.out, HV.out]; rfl) ho)
                  go_wp2_with fail
                  go_quiet (fail)
                  go_wp2_with fail
                  refine (vfault_calls _ _ _).mono ?_
                  rintro e w9 ⟨b, hbl, rfl, hf, hb⟩
                  have hfin := HE.out _ _ ⟨b, Nat.le_trans (pw_below_drewN HB.out _).size hbl, rfl, hf, below_then (pw_below_drewN HB.out _) (pw_below_drewN HB.out _).size hb⟩
                  clear hf hb hbl
                  go_wp2
                  try go_ret
                  exact hfin
              · have e1 : (a.f1 == 1) = false := by simpa using t1
                have hv : predOk a p = false := by unfold predOk; rw [if_pos HF1.out, e1]; rfl
                have HV := Aside0.mk hv
                clear hv t1
                have HE := Aside0.mk (fun e w' ho => HEP.out i e w' (by rw [HI.out.2.2, HST.out, HOI.out, HV.out]; rfl) ho)
                go_wp2_with fail
                go_quiet (fail)
                go_wp2_with fail
                refine (vfault_calls _ _ _).mono ?_
                rintro e w9 ⟨b, hbl, rfl, hf, hb⟩
                have hfin := HE.out _ _ ⟨b, Nat.le_trans (pw_below_drewN HB.out _).size hbl, rfl, hf, below_then (pw_below_drewN HB.out _) (pw_below_drewN HB.out _).size hb⟩
                clear hf hb hbl
                go_wp2
                try go_ret
                exact hfin
            · have o1 : (p.f1 == 1) = false := by simpa using hf1
              by_cases hf3 : p.f1 = 3
              · have o3 : (p.f1 == 3) = true := by simpa using hf3
                have o2 : (p.f1 == 2) = false := by rw [hf3]; rfl
                by_cases hs5 : p.f4.toList = []
                · have q5 : (p.f4.toList == []) = true := by simpa using hs5
                  have HV := Aside0.mk (show predOk a p = false by unfold predOk; rw [if_neg hf1, if_neg (by rw [hf3, hs5]; simp)])
                  clear hf1 hf3
                  have HE := Aside0.mk (fun e w' ho => HEP.out i e w' (by rw [HI.out.2.2, HST.out, HOI.out, HV.out]; rfl) ho)
                  go_wp2_with fail
                  -- 'return fault(i, ..)'
                  refine (vfault_calls _ _ _).mono ?_
                  rintro e w9 ⟨b, hbl, rfl, hf, hb⟩
                  have hfin := HE.out _ _ ⟨b, Nat.le_trans HB.out.size hbl, rfl, hf, below_then HB.out HB.out.size hb⟩
                  clear hf hb hbl
                  go_wp2
                  try go_ret
                  exact hfin
                · have q5 : (p.f4.toList == []) = false := by simpa using hs5
                  have HPO := Aside0.mk (show predOk a p = ((a.f1 == 2) && (p.f2 == 0) && (p.f3 == 0) && strOk p.f4) by unfold predOk; rw [if_neg hf1, if_pos (Or.inr ⟨hf3, hs5⟩)])
                  clear hf1 hf3
                  by_cases t1 : a.f1 = 2
                  · have e1 : (a.f1 == 2) = true := by simpa using t1
                    by_cases t2 : p.f2 = 0
                    · have e2 : (p.f2 == 0) = true := by simpa using t2
                      by_cases t3 : p.f3 = 0
                      · have e3 : (p.f3 == 0) = true := by simpa using t3
                        cases t4 : strOk p.f4 with
                        | true =>
                          have HV := Aside0.mk (show predOk a p = true by rw [HPO.out, e1, e2, e3, t4]; rfl)
                          have HS4 := Aside0.mk t4
                          clear t1 t2 t3 t4
                          go_wp2_with fail
                          refine (str_calls p.f4 _).mono ?_
                          rintro e w5 ⟨rfl, hb⟩
                          rw [HS4.out]
                          have n_ := Aside0.mk (below_then HB.out HB.out.size hb)
                          clear HB hb
                          have HB := n_
                          clear n_
                          go_wp2_with fail
                          go_roundg (gk - 1)
                          case measure => have := HI.out; omega
                          case rel => exact ⟨i + 1, ⟨by omega, by have := HI.out; omega, by rw [HI.out.2.2, HST.out, HOI.out, HV.out]; rfl⟩, rfl, HB⟩
                        | false =>
                          have HV := Aside0.mk (show predOk a p = false by rw [HPO.out, e1, e2, e3, t4]; rfl)
                          have HS4 := Aside0.mk t4
                          clear t1 t2 t3 t4
                          go_wp2_with fail
                          refine (str_calls p.f4 _).mono ?_
                          rintro e w5 ⟨rfl, hb⟩
                          rw [HS4.out]
                          have n_ := Aside0.mk (below_then HB.out HB.out.size hb)
                          clear HB hb
                          have HB := n_
                          clear n_
                          have HE := Aside0.mk (fun e w' ho => HEP.out i e w' (by rw [HI.out.2.2, HST.out, HOI.out, HV.out]; rfl) ho)
                          go_wp2_with fail
                          -- 'return fault(i, ..)'
                          refine (vfault_calls _ _ _).mono ?_
                          rintro e w9 ⟨b, hbl, rfl, hf, hb⟩
                          have hfin := HE.out _ _ ⟨b, Nat.le_trans HB.out.size hbl, rfl, hf, below_then HB.out HB.out.size hb⟩
                          clear hf hb hbl
                          go_wp2
                          try go_ret
                          exact hfin
                      · have e3 : (p.f3 == 0) = false := by simpa using t3
                        have HV := Aside0.mk (show predOk a p = false by rw [HPO.out, e1, e2, e3]; rfl)
                        clear t1 t2 t3
                        have HE := Aside0.mk (fun e w' ho => HEP.out i e w' (by rw [HI.out.2.2, HST.out, HOI.out, HV.out]; rfl) ho)
                        go_wp2_with fail
                        -- 'return fault(i, ..)'
                        refine (vfault_calls _ _ _).mono ?_
                        rintro e w9 ⟨b, hbl, rfl, hf, hb⟩
                        have hfin := HE.out _ _ ⟨b, Nat.le_trans HB.out.size hbl, rfl, hf, below_then HB.out HB.out.size hb⟩
                        clear hf hb hbl
                        go_wp2
                        try go_ret
                        exact hfin
                    · have e2 : (p.f2 == 0) = false := by simpa using t2
                      have HV := Aside0.mk (show predOk a p = false by rw [HPO.out, e1, e2]; rfl)
                      clear t1 t2
                      have HE := Aside0.mk (fun e w' ho => HEP.out i e w' (by rw [HI.out.2.2, HST.out, HOI.out, HV.out]; rfl) ho)
                      go_wp2_with fail
                      -- 'return fault(i, ..)'
                      refine (vfault_calls _ _ _).mono ?_
                      rintro e w9 ⟨b, hbl, rfl, hf, hb⟩
                      have hfin := HE.out _ _ ⟨b, Nat.le_trans HB.out.size hbl, rfl, hf, below_then HB.out HB.out.size hb⟩
                      clear hf hb hbl
                      go_wp2
                      try go_ret
                      exact hfin
                  · have e1 : (a.f1 == 2) = false := by simpa using t1
                    have HV := Aside0.mk (show predOk a p = false by rw [HPO.out, e1]; rfl)
                    clear t1
                    have HE := Aside0.mk (fun e w' ho => HEP.out i e w' (by rw [HI.out.2.2, HST.out, HOI.out, HV.out]; rfl) ho)
                    go_wp2_with fail
                    -- 'return fault(i, ..)'
                    refine (vfault_calls _ _ _).mono ?_
                    rintro e w9 ⟨b, hbl, rfl, hf, hb⟩
                    have hfin := HE.out _ _ ⟨b, Nat.le_trans HB.out.size hbl, rfl, hf, below_then HB.out HB.out.size hb⟩
                    clear hf hb hbl
                    go_wp2
                    try go_ret
                    exact hfin
              · have o3 : (p.f1 == 3) = false := by simpa using hf3
                by_cases hf2 : p.f1 = 2
                · have o2 : (p.f1 == 2) = true := by simpa using hf2
                  have HPO := Aside0.mk (show predOk a p = ((a.f1 == 2) && (p.f2 == 0) && (p.f3 == 0) && strOk p.f4) by unfold predOk; rw [if_neg hf1, if_pos (Or.inl hf2)])
                  clear hf1 hf3 hf2
                  by_cases t1 : a.f1 = 2
                  · have e1 : (a.f1 == 2) = true := by simpa using t1
                    by_cases t2 : p.f2 = 0
                    · have e2 : (p.f2 == 0) = true := by simpa using t2
                      by_cases t3 : p.f3 = 0
                      · have e3 : (p.f3 == 0) = true := by simpa using t3
                        cases t4 : strOk p.f4 with
                        | true =>
                          have HV := Aside0.mk (show predOk a p = true by rw [HPO.out, e1, e2, e3, t4]; rfl)
                          have HS4 := Aside0.mk t4
                          clear t1 t2 t3 t4
                          go_wp2_with fail
                          refine (str_calls p.f4 _).mono ?_
                          rintro e w5 ⟨rfl, hb⟩
                          rw [HS4.out]
                          have n_ := Aside0.mk (below_then HB.out HB.out.size hb)
                          clear HB hb
                          have HB := n_
                          clear n_
                          go_wp2_with fail
                          go_roundg (gk - 1)
                          case measure => have := HI.out; omega
                          case rel => exact ⟨i + 1, ⟨by omega, by have := HI.out; omega, by rw [HI.out.2.2, HST.out, HOI.out, HV.out]; rfl⟩, rfl, HB⟩
                        | false =>
                          have HV := Aside0.mk (show predOk a p = false by rw [HPO.out, e1, e2, e3, t4]; rfl)
                          have HS4 := Aside0.mk t4
                          clear t1 t2 t3 t4
                          go_wp2_with fail
                          refine (str_calls p.f4 _).mono ?_
                          rintro e w5 ⟨rfl, hb⟩
                          rw [HS4.out]
                          have n_ := Aside0.mk (below_then HB.out HB.out.size hb)
                          clear HB hb
                          have HB := n_
                          clear n_
                          have HE := Aside0.mk (fun e w' ho => HEP.out i e w' (by rw [HI.out.2.2, HST.out, HOI.out, HV.out]; rfl) ho)
                          go_wp2_with fail
                          -- 'return fault(i, ..)'
                          refine (vfault_calls _ _ _).mono ?_
                          rintro e w9 ⟨b, hbl, rfl, hf, hb⟩
                          have hfin := HE.out _ _ ⟨b, Nat.le_trans HB.out.size hbl, rfl, hf, below_then HB.out HB.out.size hb⟩
                          clear hf hb hbl
                          go_wp2
                          try go_ret
                          exact hfin
                      · have e3 : (p.f3 == 0) = false := by simpa using t3
                        have HV := Aside0.mk (show predOk a p = false by rw [HPO.out, e1, e2, e3]; rfl)
                        clear t1 t2 t3
                        have HE := Aside0.mk (fun e w' ho => HEP.out i e w' (by rw [HI.out.2.2, HST.out, HOI.out, HV.out]; rfl) ho)
                        go_wp2_with fail
                        -- 'return fault(i, ..)'
                        refine (vfault_calls _ _ _).mono ?_
                        rintro e w9 ⟨b, hbl, rfl, hf, hb⟩
                        have hfin := HE.out _ _ ⟨b, Nat.le_trans HB.out.size hbl, rfl, hf, below_then HB.out HB.out.size hb⟩
                        clear hf hb hbl
                        go_wp2
                        try go_ret
                        exact hfin
                    · have e2 : (p.f2 == 0) = false := by simpa using t2
                      have HV := Aside0.mk (show predOk a p = false by rw [HPO.out, e1, e2]; rfl)
                      clear t1 t2
                      have HE := Aside0.mk (fun e w' ho => HEP.out i e w' (by rw [HI.out.2.2, HST.out, HOI.out, HV.out]; rfl) ho)
                      go_wp2_with fail
                      -- 'return fault(i, ..)'
                      refine (vfault_calls _ _ _).mono ?_
                      rintro e w9 ⟨b, hbl, rfl, hf, hb⟩
                      have hfin := HE.out _ _ ⟨b, Nat.le_trans HB.out.size hbl, rfl, hf, below_then HB.out HB.out.size hb⟩
                      clear hf hb hbl
                      go_wp2
                      try go_ret
                      exact hfin
                  · have e1 : (a.f1 == 2) = false := by simpa using t1
                    have HV := Aside0.mk (show predOk a p = false by rw [HPO.out, e1]; rfl)
                    clear t1
                    have HE := Aside0.mk (fun e w' ho => HEP.out i e w' (by rw [HI.out.2.2, HST.out, HOI.out, HV.out]; rfl) ho)
                    go_wp2_with fail
                    -- 'return fault(i, ..)'
                    refine (vfault_calls _ _ _).mono ?_
                    rintro e w9 ⟨b, hbl, rfl, hf, hb⟩
                    have hfin := HE.out _ _ ⟨b, Nat.le_trans HB.out.size hbl, rfl, hf, below_then HB.out HB.out.size hb⟩
                    clear hf hb hbl
                    go_wp2
                    try go_ret
                    exact hfin
                · have o2 : (p.f1 == 2) = false := by simpa using hf2
                  have HV := Aside0.mk (show predOk a p = false by unfold predOk; rw [if_neg hf1, if_neg (by rintro (h | h); exact hf2 h; exact hf3 h.1)])
                  clear hf1 hf3 hf2
                  have HE := Aside0.mk (fun e w' ho => HEP.out i e w' (by rw [HI.out.2.2, HST.out, HOI.out, HV.out]; rfl) ho)
                  go_wp2_with fail
                  -- 'return fault(i, ..)'
                  refine (vfault_calls _ _ _).mono ?_
                  rintro e w9 ⟨b, hbl, rfl, hf, hb⟩
                  have hfin := HE.out _ _ ⟨b, Nat.le_trans HB.out.size hbl, rfl, hf, below_then HB.out HB.out.size hb⟩
                  clear hf hb hbl
                  go_wp2
                  try go_ret
                  exact hfin
      · have b1 : decide ((i : Int) < (m : Int)) = false := decide_eq_false (by omega)
        have b2 : decide (i < m) = false := decide_eq_false (by omega)
        have hfin := fun W => HOP.out (.returned .nilIface) W (by rw [HI.out.2.2, show m - i = 0 by omega]; rfl)
        have hfin2 := hfin _ ⟨rfl, HB.out⟩
        clear hfin
        go_wp2
        try go_ret
        exact hfin2
end Go.Proofs.Ytlokmijoaocofaa.Mine
end
section
/-
  value.Attr.fits and value.Schema.Event walked: is an event one of the schema's? Conditions: the slices at most 100000 long.
-/
namespace Go.Proofs.Ytlokmijoaocofaa.Mine
open Go.RowKit Go.Proofs.YtlokmijoaocofaaW.PrintWords Go.Proofs.YtlokmijoaocofaaW.PrintLast Go.Proofs.YtlokmijoaocofaaW.PrintMore
open Go.Proofs.Ytlokmijoaocofaa.PBoardAgain
abbrev SV := S63
abbrev SA := S65
abbrev SP := S119
def encV (x : SV) : Value := .agg #[.int .i64 x.f0, .string x.f1]
def encE (A : Option Addr) (n c : Nat) (pay : ByteArray) : Value := .agg #[.slice A n c, .string pay]
/-- A value of an attribute's. -/
def fitsB (a : SA) (v : SV) : Bool :=
  if a.f1 = 1 then (v.f1.toList == []) && (decide (a.f2 ≤ v.f0) && decide (v.f0 ≤ a.f3))
  else (v.f0 == 0) && strOk v.f1
theorem fits_calls (a : SA) (v : SV) (w : World) : Calls Try.prog 40 #[enc95 a, encV v] w fun e w' => e = .returned (.bool (fitsB a v)) ∧ Below w.heap.size w w' := by
  unfold enc95 encV
  by_cases t1 : a.f1 = 1
  · have o1 : (a.f1 == 1) = true := by simpa using t1
    have HV := Aside0.mk (show fitsB a v = ((v.f1.toList == []) && (decide (a.f2 ≤ v.f0) && decide (v.f0 ≤ a.f3))) by unfold fitsB; rw [if_pos t1])
    generalize fitsB a v = z at HV ⊢
    clear t1
    cases e1 : (v.f1.toList == []) with
    | false =>
      have HZ := Aside0.mk (show z = false by rw [HV.out, e1]; rfl)
      go_enter Try.func40, Try.ntmps40
      go_wp2
      go_ret
      exact ⟨by rw [HZ.out]; rfl, below_alloc (below_alloc (Below.refl _ _) _) _⟩
    | true =>
      by_cases t2 : a.f2 ≤ v.f0
      · have e2 := decide_eq_true t2
        by_cases t3 : v.f0 ≤ a.f3
        · have e3 := decide_eq_true t3
          have HZ := Aside0.mk (show z = true by rw [HV.out, e1, e2, e3]; rfl)
          clear t2 t3
          go_enter Try.func40, Try.ntmps40
          go_wp2
          go_ret
          exact ⟨by rw [HZ.out]; rfl, below_alloc (below_alloc (Below.refl _ _) _) _⟩
        · have e3 := decide_eq_false t3
          have HZ := Aside0.mk (show z = false by rw [HV.out, e1, e2, e3]; rfl)
          clear t2 t3
          go_enter Try.func40, Try.ntmps40
          go_wp2
          go_ret
          exact ⟨by rw [HZ.out]; rfl, below_alloc (below_alloc (Below.refl _ _) _) _⟩
      · have e2 := decide_eq_false t2
        have HZ := Aside0.mk (show z = false by rw [HV.out, e1, e2]; rfl)
        clear t2
        go_enter Try.func40, Try.ntmps40
        go_wp2
        go_ret
        exact ⟨by rw [HZ.out]; rfl, below_alloc (below_alloc (Below.refl _ _) _) _⟩
  · have o1 : (a.f1 == 1) = false := by simpa using t1
    have HV := Aside0.mk (show fitsB a v = ((v.f0 == 0) && strOk v.f1) by unfold fitsB; rw [if_neg t1])
    generalize fitsB a v = z at HV ⊢
    clear t1
    cases e1 : (v.f0 == 0) with
    | false =>
      have HZ := Aside0.mk (show z = false by rw [HV.out, e1]; rfl)
      go_enter Try.func40, Try.ntmps40
      go_wp2
      go_ret
      exact ⟨by rw [HZ.out]; rfl, below_alloc (below_alloc (Below.refl _ _) _) _⟩
    | true =>
      have HZ := Aside0.mk (show z = strOk v.f1 by rw [HV.out, e1]; rfl)
      have HC := Aside0.mk (fun W => str_calls v.f1 W)
      generalize strOk v.f1 = b at HZ HC
      go_enter Try.func40, Try.ntmps40
      go_wp2_with fail
      refine (HC.out _).mono ?_
      rintro e w1 ⟨rfl, hb⟩
      go_wp2
      go_ret
      exact ⟨by rw [HZ.out]; rfl, below_then (below_alloc (below_alloc (Below.refl _ _) _) _) (below_size (below_alloc (below_alloc (Below.refl _ _) _) _)) hb⟩
def evFrom (S : List SA) (V : List SV) : Nat → Nat → Option Nat
  | 0, _ => none
  | k + 1, i => if fitsB (S.getD i z65) (V.getD i z63) then evFrom S V k (i + 1) else some i
/-- The first value that is none of the schema's; none: there is none. -/
def evBad (S : List SA) (V : List SV) (pay : ByteArray) : Option Nat := if V.length ≠ S.length ∨ 200 < pay.size then some 0 else evFrom S V S.length 0
def EvPost (w : World) (S : List SA) (V : List SV) (pay : ByteArray) (e : Ending) (w' : World) : Prop :=
  match evBad S V pay with
  | none => e = .returned .nilIface ∧ Below w.heap.size w w'
  | some i => ∃ b, w.heap.size ≤ b ∧ e = .returned (.iface 103 (.pointer (some ⟨b, 0, none⟩))) ∧ IsFault w' b ⟨#[118, 97, 108, 117, 101]⟩ (i : Int) 3 ∧ Below w.heap.size w w'
theorem ev_bad {w w' : World} {S : List SA} {V : List SV} {pay : ByteArray} {e : Ending} {i : Nat} (h : evBad S V pay = some i) (ho : ∃ b, w.heap.size ≤ b ∧ e = .returned (.iface 103 (.pointer (some ⟨b, 0, none⟩))) ∧ IsFault w' b ⟨#[118, 97, 108, 117, 101]⟩ (i : Int) 3 ∧ Below w.heap.size w w') : EvPost w S V pay e w' := by
  unfold EvPost
  rw [h]
  exact ho
theorem ev_ok {w w' : World} {S : List SA} {V : List SV} {pay : ByteArray} {e : Ending} (h : evBad S V pay = none) (ho : e = .returned .nilIface ∧ Below w.heap.size w w') : EvPost w S V pay e w' := by
  unfold EvPost
  rw [h]
  exact ho
theorem EvPost.bad {w w' : World} {S : List SA} {V : List SV} {pay : ByteArray} {e : Ending} {i : Nat} (h : EvPost w S V pay e w') (hb : evBad S V pay = some i) : ∃ b, w.heap.size ≤ b ∧ e = .returned (.iface 103 (.pointer (some ⟨b, 0, none⟩))) ∧ IsFault w' b ⟨#[118, 97, 108, 117, 101]⟩ (i : Int) 3 ∧ Below w.heap.size w w' := by
  unfold EvPost at h
  rw [hb] at h
  exact h
theorem EvPost.ok {w w' : World} {S : List SA} {V : List SV} {pay : ByteArray} {e : Ending} (h : EvPost w S V pay e w') (hb : evBad S V pay = none) : e = .returned .nilIface ∧ Below w.heap.size w w' := by
  unfold EvPost at h
  rw [hb] at h
  exact h
set_option maxHeartbeats 8000000 in
set_option maxRecDepth 100000 in
theorem event_calls (A B : Option Addr) (n m c d : Nat) (S : List SA) (V : List SV) (pay : ByteArray) (w : World) (hn : S.length = n) (hm : V.length = m) (hr : Kd.C k65 w A n S) (hr2 : Kd.C k63 w B m V) (hl : n ≤ 100000) :
    Calls Try.prog 27 #[.slice A n c, encE B m d pay] w (EvPost w S V pay) := by
  unfold encE
  have HRS := Aside0.mk hr
  have HRV := Aside0.mk hr2
  have HN := Aside0.mk hn
  have HM := Aside0.mk hm
  clear hr hr2 hn hm
  by_cases hlen : m ≠ n ∨ 200 < pay.size
  · have HB := Aside0.mk (fun e w' ho => ev_bad (w := w) (w' := w') (S := S) (V := V) (pay := pay) (e := e) (i := 0) (by unfold evBad; rw [if_pos (by rw [HN.out, HM.out]; exact hlen)]) ho)
    generalize EvPost w S V pay = POST at HB ⊢
    by_cases h1 : m = n
    · have hp : 200 < pay.size := by
        rcases hlen with h | h
        · exact absurd h1 h
        · exact h
      have q2 : decide (200 < (pay.size : Int)) = true := decide_eq_true (by omega)
      have q2b : decide (200 < pay.size) = true := decide_eq_true hp
      subst h1
      clear hlen hp
      go_enter Try.func27, Try.ntmps27
      go_wp2_with fail
      refine (vfault_calls _ _ _).mono ?_
      rintro e w1 ⟨b, h1, rfl, hf, hb⟩
      have hfin := HB.out _ _ ⟨b, Nat.le_trans (below_size (below_alloc (Below.refl _ _) _)) h1, rfl, hf, below_then (below_alloc (Below.refl _ _) _) (below_size (below_alloc (Below.refl _ _) _)) hb⟩
      go_wp2
      try go_ret
      exact hfin
    · have q1 : ((m : Int) != (n : Int)) = true := by simp; omega
      have q1b : (m != n) = true := by simpa using h1
      clear hlen h1
      go_enter Try.func27, Try.ntmps27
      go_wp2_with fail
      refine (vfault_calls _ _ _).mono ?_
      rintro e w1 ⟨b, h1, rfl, hf, hb⟩
      have hfin := HB.out _ _ ⟨b, Nat.le_trans (below_size (below_alloc (Below.refl _ _) _)) h1, rfl, hf, below_then (below_alloc (Below.refl _ _) _) (below_size (below_alloc (Below.refl _ _) _)) hb⟩
      go_wp2
      try go_ret
      exact hfin
  · have h1 : m = n := by omega
    have q2 : decide (200 < (pay.size : Int)) = false := decide_eq_false (by omega)
    have q2b : decide (200 < pay.size) = false := decide_eq_false (by omega)
    have HFB := Aside0.mk (show evBad S V pay = evFrom S V n 0 by unfold evBad; rw [if_neg (by rw [HN.out, HM.out]; exact hlen), HN.out])
    have HEP := Aside0.mk (fun i e w' h ho => ev_bad (w := w) (w' := w') (S := S) (V := V) (pay := pay) (e := e) (i := i) h ho)
    have HOP := Aside0.mk (fun e w' h ho => ev_ok (w := w) (w' := w') (S := S) (V := V) (pay := pay) (e := e) h ho)
    generalize EvPost w S V pay = POST at HEP HOP ⊢
    subst h1
    clear hlen
    go_enter Try.func27, Try.ntmps27
    go_wp2_with fail
    have HB := Aside0.mk (below_alloc (Below.refl w.heap.size w) (.cells #[.slice B m d, .string pay] 24))
    have HKE := Aside0.mk (show (w.alloc (.cells #[.slice B m d, .string pay] 24)).heap[w.heap.size]? = some (.cells #[.slice B m d, .string pay] 24 (0, 0)) from heap_alloc_new w _)
    generalize w.alloc (.cells #[.slice B m d, .string pay] 24) = w0 at HB HKE ⊢
    obtain ⟨ge, hge⟩ : ∃ g, g = w.heap.size := ⟨_, rfl⟩
    rw [← hge] at HKE ⊢
    clear hge
    go_loopg [5, 6, 22] (m + 1) (fun k v5 v6 v22 W => ∃ i : Nat, Aside0 (i ≤ m ∧ k + i = m + 1 ∧ evBad S V pay = evFrom S V (m - i) i) ∧ v22 = .int .i64 (i : Int) ∧ Aside0 (Below w.heap.size w W) ∧ Aside0 (W.heap[ge]? = some (.cells #[.slice B m d, .string pay] 24 (0, 0))))
    case atStart => exact ⟨0, ⟨by omega, by omega, HFB.out⟩, rfl, HB, HKE⟩
    case round =>
      clear HB HKE
      obtain ⟨i, HI, rfl, HB, HKE⟩ := hrel
      by_cases hi : i < m
      · have b1 : decide ((i : Int) < (m : Int)) = true := decide_eq_true (by omega)
        have b2 : decide (i < m) = true := decide_eq_true (by omega)
        have p1 : (0 : Int) ≤ (i : Int) := by omega
        have p2 : (i : Int) < (m : Int) := by omega
        have hstep : evFrom S V (m - i) i = if fitsB (S.getD i z65) (V.getD i z63) then evFrom S V (m - (i + 1)) (i + 1) else some i := by
          rw [show m - i = (m - (i + 1)) + 1 by omega]
          rfl
        obtain ⟨ad, e, h0, h1, h2, h3⟩ := at_T65 (Kd.C_below HRS.out HB.out) i p1 p2
        cases e
        obtain ⟨ad2, e, k0, k1⟩ := at_T63 (Kd.C_below HRV.out HB.out) i p1 p2
        cases e
        rw [Int.toNat_natCast] at h0 h1 h2 h3 k0 k1
        have hrd : rd_T65 S (i : Int) = S.getD i z65 := rfl
        have hrd2 : rd_T63 V (i : Int) = V.getD i z63 := rfl
        rw [hrd] at h0 h1 h2 h3
        rw [hrd2] at k0 k1
        generalize S.getD i z65 = a at h0 h1 h2 h3 hstep
        generalize V.getD i z63 = v at k0 k1 hstep
        have HST := Aside0.mk hstep
        clear hrd hrd2 hstep
        have HFC := Aside0.mk (fun W => fits_calls a v W)
        unfold enc95 encV at HFC
        have y0 := (blk_cell HKE.out 0).trans (show _ = some (Value.slice (some ad2) m d) from rfl)
        cases hfb : fitsB a v with
        | true =>
          rw [hfb] at HFC
          rw [hfb, if_pos rfl] at HST
          clear hfb
          go_wp2_with fail
          generalize hW : wr.alloc (Obj.cells #[.string a.f0, .int .i64 a.f1, .int .i64 a.f2, .int .i64 a.f3] 65) = W2
          have hb2 : Below wr.heap.size wr W2 := by rw [← hW]; exact below_alloc (Below.refl _ _) _
          have HKP : W2.heap[wr.heap.size]? = some (.cells #[.string a.f0, .int .i64 a.f1, .int .i64 a.f2, .int .i64 a.f3] 65 (0, 0)) := by rw [← hW]; exact blk_new wr _
          have HKE2 := Aside0.mk ((hb2.block _ (blk_lt HKE.out)).trans HKE.out)
          have n_ := Aside0.mk (below_then HB.out HB.out.size hb2)
          have r0 : ∀ q : BelowP W2, q.w.cell? _ = _ := fun q => q.cell ((hb2.cell (World.block_lt_of_cell? wr _ k0)).trans k0)
          have r1 : ∀ q : BelowP W2, q.w.cell? _ = _ := fun q => q.cell ((hb2.cell (World.block_lt_of_cell? wr _ k1)).trans k1)
          clear HB HKE hW hb2 h0 h1 h2 h3 k0 k1 y0
          have HB := n_
          clear n_
          generalize wr.heap.size = gp at HKP ⊢
          have q0 : ∀ q : BelowP W2, q.w.cell? ⟨gp, 0, none⟩ = some (.string a.f0) := fun q => q.cell ((blk_cell HKP 0).trans rfl)
          have q1 : ∀ q : BelowP W2, q.w.cell? ⟨gp, 1, none⟩ = some (.int .i64 a.f1) := fun q => q.cell ((blk_cell HKP 1).trans rfl)
          have q2 : ∀ q : BelowP W2, q.w.cell? ⟨gp, 2, none⟩ = some (.int .i64 a.f2) := fun q => q.cell ((blk_cell HKP 2).trans rfl)
          have q3 : ∀ q : BelowP W2, q.w.cell? ⟨gp, 3, none⟩ = some (.int .i64 a.f3) := fun q => q.cell ((blk_cell HKP 3).trans rfl)
          have q5 : ∀ q : BelowP W2, q.w.cell? ⟨ge, 0, none⟩ = some (.slice (some ad2) m d) := fun q => q.cell ((blk_cell HKE2.out 0).trans rfl)
          clear HKP
          refine wp_region_quiet_below (by kernel_rfl) (by kernel_rfl) ?_
          repeat (quiet_step ((go_at_call 40; (with_reducible refine Calls.below_of (HFC.out _)))))
          refine wpQuiet_nil ?_
          rintro _ ⟨pq, rfl⟩
          go_wp2_with fail
          go_roundg (gk - 1)
          case measure => have := HI.out; omega
          case rel => exact ⟨i + 1, ⟨by omega, by have := HI.out; omega, by rw [HI.out.2.2, HST.out]⟩, rfl, ⟨below_then HB.out HB.out.size pq.h⟩, ⟨(pq.h.block _ (blk_lt HKE2.out)).trans HKE2.out⟩⟩
        | false =>
          rw [hfb] at HFC
          rw [hfb, if_neg (by simp)] at HST
          have HE := Aside0.mk (fun e w' ho => HEP.out i e w' (by rw [HI.out.2.2, HST.out]) ho)
          clear hfb
          go_wp2_with fail
          generalize hW : wr.alloc (Obj.cells #[.string a.f0, .int .i64 a.f1, .int .i64 a.f2, .int .i64 a.f3] 65) = W2
          have hb2 : Below wr.heap.size wr W2 := by rw [← hW]; exact below_alloc (Below.refl _ _) _
          have HKP : W2.heap[wr.heap.size]? = some (.cells #[.string a.f0, .int .i64 a.f1, .int .i64 a.f2, .int .i64 a.f3] 65 (0, 0)) := by rw [← hW]; exact blk_new wr _
          have HKE2 := Aside0.mk ((hb2.block _ (blk_lt HKE.out)).trans HKE.out)
          have n_ := Aside0.mk (below_then HB.out HB.out.size hb2)
          have r0 : ∀ q : BelowP W2, q.w.cell? _ = _ := fun q => q.cell ((hb2.cell (World.block_lt_of_cell? wr _ k0)).trans k0)
          have r1 : ∀ q : BelowP W2, q.w.cell? _ = _ := fun q => q.cell ((hb2.cell (World.block_lt_of_cell? wr _ k1)).trans k1)
          clear HB HKE hW hb2 h0 h1 h2 h3 k0 k1 y0
          have HB := n_
          clear n_
          generalize wr.heap.size = gp at HKP ⊢
          have q0 : ∀ q : BelowP W2, q.w.cell? ⟨gp, 0, none⟩ = some (.string a.f0) := fun q => q.cell ((blk_cell HKP 0).trans rfl)
          have q1 : ∀ q : BelowP W2, q.w.cell? ⟨gp, 1, none⟩ = some (.int .i64 a.f1) := fun q => q.cell ((blk_cell HKP 1).trans rfl)
          have q2 : ∀ q : BelowP W2, q.w.cell? ⟨gp, 2, none⟩ = some (.int .i64 a.f2) := fun q => q.cell ((blk_cell HKP 2).trans rfl)
          have q3 : ∀ q : BelowP W2, q.w.cell? ⟨gp, 3, none⟩ = some (.int .i64 a.f3) := fun q => q.cell ((blk_cell HKP 3).trans rfl)
          have q5 : ∀ q : BelowP W2, q.w.cell? ⟨ge, 0, none⟩ = some (.slice (some ad2) m d) := fun q => q.cell ((blk_cell HKE2.out 0).trans rfl)
          clear HKP
          refine wp_region_quiet_below (by kernel_rfl) (by kernel_rfl) ?_
          repeat (quiet_step ((go_at_call 40; (with_reducible refine Calls.below_of (HFC.out _)))))
          refine wpQuiet_nil ?_
          rintro _ ⟨pq, rfl⟩
          go_wp2_with fail
          refine (vfault_calls _ _ _).mono ?_
          rintro e w9 ⟨b, hbl, rfl, hf, hb⟩
          have hb3 := below_then HB.out HB.out.size pq.h
          have hfin := HE.out _ _ ⟨b, Nat.le_trans hb3.size hbl, rfl, hf, below_then hb3 hb3.size hb⟩
          clear hf hb hbl hb3
          go_wp2
          try go_ret
          exact hfin
      · have b1 : decide ((i : Int) < (m : Int)) = false := decide_eq_false (by omega)
        have b2 : decide (i < m) = false := decide_eq_false (by omega)
        have hfin := fun W => HOP.out (.returned .nilIface) W (by rw [HI.out.2.2, show m - i = 0 by omega]; rfl)
        have hfin2 := hfin _ ⟨rfl, HB.out⟩
        clear hfin
        go_wp2
        try go_ret
        exact hfin2
end Go.Proofs.Ytlokmijoaocofaa.Mine
end
section
/-
  slices.Clone at values and at attributes: the same elements in memory of the call's own. Condition: at most 10^12 elements, where the slice begins is a place of a row.
-/
namespace Go.Proofs.Ytlokmijoaocofaa.Mine
open Go.RowKit Go.Proofs.YtlokmijoaocofaaW.PrintWords Go.Proofs.YtlokmijoaocofaaW.PrintLast Go.Proofs.YtlokmijoaocofaaW.PrintMore
open Go.Proofs.Ytlokmijoaocofaa.PBoardAgain
theorem flat_cells {α : Type} (enc : α → List Value) (k : Nat) (hk : ∀ x, (enc x).length = k) (w : World) (b : Nat) : ∀ (xs : List α) (o : Nat), (∀ q x, xs[q]? = some x → ∀ i u, (enc x)[i]? = some u → w.cell? ⟨b, o + (q * k + i), none⟩ = some u) → ∀ j u, (xs.flatMap enc)[j]? = some u → w.cell? ⟨b, o + j, none⟩ = some u
  | [], o, _, j, u, hj => by simp at hj
  | x :: r, o, h, j, u, hj => by
    rw [List.flatMap_cons] at hj
    by_cases hlt : j < k
    · rw [List.getElem?_append_left (by rw [hk]; exact hlt)] at hj
      have := h 0 x rfl j u hj
      rwa [Nat.zero_mul, Nat.zero_add] at this
    · rw [List.getElem?_append_right (by rw [hk]; omega), hk] at hj
      have := flat_cells enc k hk w b r (o + k) (fun q y hq i v hi => by
        have := h (q + 1) y hq i v hi
        rwa [Nat.add_mul, Nat.one_mul, show o + (q * k + k + i) = o + k + (q * k + i) by omega] at this) (j - k) u hj
      rwa [show o + k + (j - k) = o + j by omega] at this
theorem flat_len {α : Type} (enc : α → List Value) (k : Nat) (hk : ∀ x, (enc x).length = k) : ∀ xs : List α, (xs.flatMap enc).length = xs.length * k
  | [] => by simp
  | x :: r => by rw [List.flatMap_cons, List.length_append, hk, flat_len enc k hk r, List.length_cons, Nat.add_mul, Nat.one_mul, Nat.add_comm]
theorem flat_reps {α : Type} (R : α → List Value → Prop) (enc : α → List Value) (k : Nat) (hk : ∀ x, (enc x).length = k) (hR : ∀ x, R x (enc x)) : ∀ xs : List α, Reps R k xs (xs.flatMap enc)
  | [] => Reps.none _ _
  | x :: r => by
    have ih := flat_reps R enc k hk hR r
    refine ⟨flat_len enc k hk (x :: r), fun j p hj => ?_⟩
    rw [List.flatMap_cons]
    cases j with
    | zero =>
      have : x = p := by simpa using hj
      subst this
      rw [Nat.zero_mul, List.drop_zero, List.take_append_of_le_length (by rw [hk]; exact Nat.le_refl _), List.take_of_length_le (by rw [hk]; exact Nat.le_refl _)]
      exact hR x
    | succ j =>
      have hj2 : r[j]? = some p := by simpa using hj
      rw [Nat.add_mul, Nat.one_mul, show j * k + k = (enc x).length + j * k by rw [hk]; omega, show (enc x ++ r.flatMap enc).drop ((enc x).length + j * k) = (r.flatMap enc).drop (j * k) by rw [← List.drop_drop, List.drop_left]]
      exact ih.2 j p hj2
theorem add_flat (b off m : Nat) : (⟨b, off, none⟩ : Addr).add m = ⟨b, off + m, none⟩ := by
  unfold Addr.add
  split
  · rename_i h
    rw [h]
    rfl
  · rfl
def cellsV (x : SV) : List Value := [.int .i64 x.f0, .string x.f1]
def cellsA (x : SA) : List Value := [.string x.f0, .int .i64 x.f1, .int .i64 x.f2, .int .i64 x.f3]
set_option maxRecDepth 100000 in
theorem clone_V (b off n c : Nat) (L : List SV) (w : World) (hn : L.length = n) (hr : Kd.C k63 w (some ⟨b, off, none⟩) n L) (hl : n ≤ 1000000000) (h0 : 0 < n) :
    Calls Try.prog 28 #[.slice (some ⟨b, off, none⟩) n c] w fun e w' => ∃ A c', e = .returned (.slice A n c') ∧ n ≤ c' ∧ Kd.C k63 w' A n L ∧ Kd.R k63 63 w' w.heap.size (fun _ => True) (.slice A n c') L ∧ Below w.heap.size w w' := by
  obtain ⟨i0, hi, hzz⟩ := Option.map_eq_some_iff.1 info63
  simp only [Prod.mk.injEq] at hzz
  obtain ⟨hz0, hz1, hz2⟩ := hzz
  have hflat := flat_cells cellsV 2 (fun _ => rfl) w b L off (fun q x hq i u hi => by
    obtain ⟨ad, e, hc⟩ := hr.2.2 h0
    injection e with e
    subst e
    obtain ⟨cs, _, hK, hcell⟩ := hc q x hq
    obtain rfl := k63_open hK
    have := hcell i u hi
    rw [add_flat] at this
    exact this)
  have hcon := AnyE.slices_Clone Try.cloneV i0 _ 2 24 hi hz0 hz1 hz2 rfl (by decide) Try.sizeOf63 b off n c (L.flatMap cellsV) w (by rw [flat_len cellsV 2 (fun _ => rfl), hn]) (by unfold maxLen; omega) (by omega) hflat (fun u hu => by
    obtain ⟨x, _, hx⟩ := List.mem_flatMap.1 hu
    unfold cellsV at hx
    simp at hx
    rcases hx with rfl | rfl | rfl | rfl <;> rfl)
  change Calls Try.prog 28 _ _ _ at hcon
  refine hcon.mono ?_
  rintro e w' ⟨v, rfl, hown, _, hb⟩
  have hR : Kd.R k63 63 w' w.heap.size (fun _ => True) v L := ⟨fun _ _ => trivial, L.flatMap cellsV, by rw [hn]; exact hown, flat_reps _ cellsV 2 (fun _ => rfl) (fun x => k63_mkM _ _ _ x) L⟩
  obtain ⟨A, c', rfl, hc, hC⟩ := Kd.R_reads hR
  rw [hn] at hc hC hR ⊢
  exact ⟨A, c', rfl, hc, hC, hR, hb⟩
set_option maxRecDepth 100000 in
theorem clone_A (b off n c : Nat) (L : List SA) (w : World) (hn : L.length = n) (hr : Kd.C k65 w (some ⟨b, off, none⟩) n L) (hl : n ≤ 1000000000) (h0 : 0 < n) :
    Calls Try.prog 22 #[.slice (some ⟨b, off, none⟩) n c] w fun e w' => ∃ A c', e = .returned (.slice A n c') ∧ n ≤ c' ∧ Kd.C k65 w' A n L ∧ Kd.R k65 65 w' w.heap.size (fun _ => True) (.slice A n c') L ∧ Below w.heap.size w w' := by
  obtain ⟨i0, hi, hzz⟩ := Option.map_eq_some_iff.1 info65
  simp only [Prod.mk.injEq] at hzz
  obtain ⟨hz0, hz1, hz2⟩ := hzz
  have hflat := flat_cells cellsA 4 (fun _ => rfl) w b L off (fun q x hq i u hi => by
    obtain ⟨ad, e, hc⟩ := hr.2.2 h0
    injection e with e
    subst e
    obtain ⟨cs, _, hK, hcell⟩ := hc q x hq
    obtain rfl := k65_open hK
    have := hcell i u hi
    rw [add_flat] at this
    exact this)
  have hcon := AnyE.slices_Clone Try.cloneA i0 _ 4 40 hi hz0 hz1 hz2 rfl (by decide) Try.sizeOf65 b off n c (L.flatMap cellsA) w (by rw [flat_len cellsA 4 (fun _ => rfl), hn]) (by unfold maxLen; omega) (by omega) hflat (fun u hu => by
    obtain ⟨x, _, hx⟩ := List.mem_flatMap.1 hu
    unfold cellsA at hx
    simp at hx
    rcases hx with rfl | rfl | rfl | rfl <;> rfl)
  change Calls Try.prog 22 _ _ _ at hcon
  refine hcon.mono ?_
  rintro e w' ⟨v, rfl, hown, _, hb⟩
  have hR : Kd.R k65 65 w' w.heap.size (fun _ => True) v L := ⟨fun _ _ => trivial, L.flatMap cellsA, by rw [hn]; exact hown, flat_reps _ cellsA 4 (fun _ => rfl) (fun x => k65_mkM _ _ _ x) L⟩
  obtain ⟨A, c', rfl, hc, hC⟩ := Kd.R_reads hR
  rw [hn] at hc hC hR ⊢
  exact ⟨A, c', rfl, hc, hC, hR, hb⟩
end Go.Proofs.Ytlokmijoaocofaa.Mine
end
section
-- PRINTED BY print.sh 35421559b90ae4d0a3588c463048766b98c2df88dd9212a6774a882060cdf62d: not written by this session
namespace Go.Proofs.Ytlokmijoaocofaa.PBoardAgain
open Go.RowKit Go.Proofs.YtlokmijoaocofaaW.PrintWords Go.Proofs.YtlokmijoaocofaaW.PrintLast Go.Proofs.YtlokmijoaocofaaW.PrintMore
attribute [local go_sem] max2_int min2_int max_two min_two max_three min_three max_four min_four   -- for this text's walks alone

theorem eqA63 (d : Nat) (w : World) (x0 y0 : Int) (x1 y1 : ByteArray) :
    (Op.equalIn (d + 2) 63 (.agg #[.int .i64 x0, .string x1]) (.agg #[.int .i64 y0, .string y1])).run Try.prog w = .ok (x0 == y0 && (x1.toList == y1.toList)) w := by
  refine eqA_of Try.underlying63 (by kernel_rfl) ?_
  refine eqf_cons (by rfl) (by go_simp; rfl) (by go_simp; rfl) (by go_simp) ?_
  exact eqf_last (by rfl) (by go_simp; rfl) (by go_simp; rfl) (by go_simp)
end Go.Proofs.Ytlokmijoaocofaa.PBoardAgain
end
section
/-
  slices.Equal at values and board.Same, as the kit's printer writes them.
-/
namespace Go.Proofs.Ytlokmijoaocofaa.PBoardAgain
open Go.RowKit Go.Proofs.YtlokmijoaocofaaW.PrintWords Go.Proofs.YtlokmijoaocofaaW.PrintLast Go.Proofs.YtlokmijoaocofaaW.PrintMore
attribute [local go_sem] max2_int min2_int max_two min_two max_three min_three max_four min_four   -- for this text's walks alone

attribute [local go_sem high] eqA63
/-! ### value_Value_20: function 20 -/
def value_Value_20.l0 : Nat → List (S63) → List (S63) → Int → Int → Option (Bool)
  | 0, _, _, _, _ => none
  | k + 1, x0, x1, x12, x13 => if x13 < x12 then (if 0 ≤ x13 then (if x13 < (x0.length : Int) then (if x13 < (x1.length : Int) then (if (!(((rd_T63 x0 x13).f0) == ((rd_T63 x1 x13).f0)) || (!((((rd_T63 x0 x13).f1).toList) == (((rd_T63 x1 x13).f1).toList)))) = true then (some false) else (value_Value_20.l0 k x0 x1 x12 (wrap64 (x13 + 1)))) else (none)) else (none)) else (none)) else (some true)
def value_Value_20.f (k : Nat) (l0 : List (S63)) (l1 : List (S63)) : Option (Bool) := if (l0.length : Int) = (l1.length : Int) then (value_Value_20.l0 k l0 l1 (l0.length : Int) 0) else (some false)
theorem value_Value_20.mono_l : ∀ k, (∀ y0 y1 y2 y3, LeO (value_Value_20.l0 k y0 y1 y2 y3) (value_Value_20.l0 (k + 1) y0 y1 y2 y3))
  | 0 => fun _ _ _ _ r h => by simp [value_Value_20.l0] at h
  | k + 1 => by
    have ih0 := value_Value_20.mono_l k
    · intro y0 y1 y2 y3
      unfold value_Value_20.l0
      repeat' first
      | (with_reducible exact ih0 _ _ _ _)
      | (with_reducible exact LeO.refl _)
      | (with_reducible exact LeO.none _)
      | (with_reducible refine LeO.ite ?_ ?_)
      | (with_reducible refine LeO.bind ?_ (fun _ => ?_))
      | exact ih0 _ _ _ _
      | exact LeO.none _
      | refine LeO.ite ?_ ?_
      | refine LeO.bind ?_ (fun _ => ?_)
theorem value_Value_20.mono : ∀ a0 a1 k, LeO (value_Value_20.f k a0 a1) (value_Value_20.f (k + 1) a0 a1) := by
  intro a0 a1 k
  have ih0 := value_Value_20.mono_l k
  unfold value_Value_20.f
  repeat' first
      | (with_reducible exact ih0 _ _ _ _)
      | (with_reducible exact LeO.refl _)
      | (with_reducible exact LeO.none _)
      | (with_reducible refine LeO.ite ?_ ?_)
      | (with_reducible refine LeO.bind ?_ (fun _ => ?_))
      | exact ih0 _ _ _ _
      | exact LeO.none _
      | refine LeO.ite ?_ ?_
      | refine LeO.bind ?_ (fun _ => ?_)
set_option maxHeartbeats 8000000 in
set_option maxRecDepth 100000 in
theorem value_Value_20.calls (k : Nat) (A0 : Option Addr) (c0 : Nat) (l0 : List (S63)) (A1 : Option Addr) (c1 : Nat) (l1 : List (S63)) (r : Bool) (w : World) (hr0 : Kd.C k63 w A0 l0.length l0) (hc0 : l0.length ≤ c0) (hr1 : Kd.C k63 w A1 l1.length l1) (hc1 : l1.length ≤ c1) (h : value_Value_20.f k l0 l1 = some r) :
    Calls Try.prog 20 #[.slice A0 l0.length c0, .slice A1 l1.length c1] w fun e w' => e = .returned (.bool r) ∧ Drawn0 w w' := by
  have hu63 := Try.underlying63
  have HR0 := Aside0.mk hr0
  have HC0 := Aside0.mk hc0
  clear hr0 hc0
  have HR1 := Aside0.mk hr1
  have HC1 := Aside0.mk hc1
  clear hr1 hc1
  have H : (if (l0.length : Int) = (l1.length : Int) then (value_Value_20.l0 k l0 l1 (l0.length : Int) 0) else (some false)) = some r := h
  clear h
  by_cases c3 : (l0.length : Int) = (l1.length : Int)
  · rw [if_pos c3] at H
    have c3b0 : ((l0.length : Int) == (l1.length : Int)) = true := beq_iff_eq.mpr c3
    have c3b1 : ((l0.length : Int) != (l1.length : Int)) = false := bne_eq_false_iff_eq.mpr c3
    have c3b2 : (l0.length == l1.length) = true := by first | simpa using c3 | (simp at c3 ⊢; omega)
    clear c3
    have H' := Aside0.mk H
    clear H
    go_enter Try.func20, Try.ntmps20
    go_wp2
    repeat (go_quiet (fail); try go_wp2)
    go_loopg [13] k (fun kq v13 w' => ∃ (x13_1 : Int), v13 = .int .i64 x13_1 ∧ Aside0 (value_Value_20.l0 kq l0 l1 (l0.length : Int) x13_1 = some r) ∧ Aside0 (kq ≤ k) ∧ Drawn0 w w')
    case atStart => exact ⟨(0), (by first | rfl | (simp; done) | (simp [*]; done)), H', ⟨Nat.le_refl _⟩, by repeat (first | exact Drawn0.refl _ | apply Drawn0.step)⟩
    case round =>
      clear H'
      try clear c1
      try clear c2
      try clear p2
      try clear c3
      try clear c3b0
      try clear c3b1
      try clear c3b2
      obtain ⟨x13_1, rfl, HA, HK1, ⟨m1, rfl⟩⟩ := hrel
      cases gk with
      | zero => exact absurd HA.out (by simp [value_Value_20.l0])
      | succ k1 =>
        have H := HA.out
        clear HA
        simp only [value_Value_20.l0] at H
        by_cases c4 : x13_1 < (l0.length : Int)
        · rw [if_pos c4] at H
          have c4b0 : decide (x13_1 < (l0.length : Int)) = true := decide_eq_true c4
          clear c4
          by_cases c5 : 0 ≤ x13_1
          · rw [if_pos c5] at H
            have c5b0 : decide (0 ≤ x13_1) = true := decide_eq_true c5
            clear c5
            by_cases c6 : x13_1 < (l0.length : Int)
            · rw [if_pos c6] at H
              have c6b0 : decide (x13_1 < (l0.length : Int)) = true := decide_eq_true c6
              clear c6
              by_cases c7 : x13_1 < (l1.length : Int)
              · rw [if_pos c7] at H
                have c7b0 : decide (x13_1 < (l1.length : Int)) = true := decide_eq_true c7
                clear c7
                by_cases c8 : (!(((rd_T63 l0 x13_1).f0) == ((rd_T63 l1 x13_1).f0)) || (!((((rd_T63 l0 x13_1).f1).toList) == (((rd_T63 l1 x13_1).f1).toList)))) = true
                · rw [if_pos c8] at H
                  have c8b0 : (!(((rd_T63 l0 x13_1).f0) == ((rd_T63 l1 x13_1).f0)) || (!((((rd_T63 l0 x13_1).f1).toList) == (((rd_T63 l1 x13_1).f1).toList)))) = true := c8
                  clear c8
                  obtain rfl := Option.some.inj H
                  have p194 : 0 ≤ (x13_1 : Int) := of_decide_eq_true (by first | (with_reducible assumption) | assumption)
                  have q194 : x13_1 < (l0.length : Int) := of_decide_eq_true (by first | (with_reducible assumption) | assumption)
                  obtain ⟨ad194, e194, hx194_0, hx194_1⟩ := at_T63 HR0.out x13_1 p194 q194
                  cases e194
                  replace p194 := eq_true p194
                  replace q194 := eq_true q194
                  have p195 : 0 ≤ (x13_1 : Int) := of_decide_eq_true (by first | (with_reducible assumption) | assumption)
                  have q195 : x13_1 < (l1.length : Int) := of_decide_eq_true (by first | (with_reducible assumption) | assumption)
                  obtain ⟨ad195, e195, hx195_0, hx195_1⟩ := at_T63 HR1.out x13_1 p195 q195
                  cases e195
                  replace p195 := eq_true p195
                  replace q195 := eq_true q195
                  go_wp2
                  repeat (go_quiet (fail); try go_wp2)
                  go_ret
                  exact ⟨by first | rfl | (simp; done) | (simp [*]; done), by repeat (first | exact Drawn0.refl _ | apply Drawn0.step)⟩
                · rw [if_neg c8] at H
                  have c8b0 : (!(((rd_T63 l0 x13_1).f0) == ((rd_T63 l1 x13_1).f0)) || (!((((rd_T63 l0 x13_1).f1).toList) == (((rd_T63 l1 x13_1).f1).toList)))) = false := by simpa using c8
                  clear c8
                  have H' := Aside0.mk H
                  clear H
                  have p194 : 0 ≤ (x13_1 : Int) := of_decide_eq_true (by first | (with_reducible assumption) | assumption)
                  have q194 : x13_1 < (l0.length : Int) := of_decide_eq_true (by first | (with_reducible assumption) | assumption)
                  obtain ⟨ad194, e194, hx194_0, hx194_1⟩ := at_T63 HR0.out x13_1 p194 q194
                  cases e194
                  replace p194 := eq_true p194
                  replace q194 := eq_true q194
                  have p195 : 0 ≤ (x13_1 : Int) := of_decide_eq_true (by first | (with_reducible assumption) | assumption)
                  have q195 : x13_1 < (l1.length : Int) := of_decide_eq_true (by first | (with_reducible assumption) | assumption)
                  obtain ⟨ad195, e195, hx195_0, hx195_1⟩ := at_T63 HR1.out x13_1 p195 q195
                  cases e195
                  replace p195 := eq_true p195
                  replace q195 := eq_true q195
                  go_wp2
                  repeat (go_quiet (fail); try go_wp2)
                  go_roundg k1
                  case measure => have := HK1.out; omega
                  case rel => exact ⟨(wrap64 (x13_1 + 1)), (by first | rfl | (simp; done) | (simp [*]; done)), H', ⟨by have := HK1.out; omega⟩, by repeat (first | exact Drawn0.refl _ | apply Drawn0.step)⟩
              · rw [if_neg c7] at H
                exact absurd H (by simp)
            · rw [if_neg c6] at H
              exact absurd H (by simp)
          · rw [if_neg c5] at H
            exact absurd H (by simp)
        · rw [if_neg c4] at H
          have c4b0 : decide (x13_1 < (l0.length : Int)) = false := decide_eq_false c4
          clear c4
          obtain rfl := Option.some.inj H
          go_wp2
          repeat (go_quiet (fail); try go_wp2)
          go_ret
          exact ⟨by first | rfl | (simp; done) | (simp [*]; done), by repeat (first | exact Drawn0.refl _ | apply Drawn0.step)⟩
  · rw [if_neg c3] at H
    have c3b0 : ((l0.length : Int) == (l1.length : Int)) = false := beq_eq_false_iff_ne.mpr c3
    have c3b1 : ((l0.length : Int) != (l1.length : Int)) = true := bne_iff_ne.mpr c3
    have c3b2 : (l0.length == l1.length) = false := by first | simpa using c3 | (simp at c3 ⊢; omega)
    obtain rfl := Option.some.inj H
    go_enter Try.func20, Try.ntmps20
    go_wp2
    repeat (go_quiet (fail); try go_wp2)
    go_ret
    exact ⟨by first | rfl | (simp; done) | (simp [*]; done), by repeat (first | exact Drawn0.refl _ | apply Drawn0.step)⟩

/-! ### board_Same: function 9 -/
def board_Same.f (k : Nat) (l0_0 : List (S63)) (a0_1 : ByteArray) (l1_0 : List (S63)) (a1_1 : ByteArray) : Option (Bool) := if a0_1.toList = a1_1.toList then ((value_Value_20.f k l0_0 l1_0).bind fun t198 => (some t198)) else (some false)
theorem board_Same.mono : ∀ a0 a1 a2 a3 k, LeO (board_Same.f k a0 a1 a2 a3) (board_Same.f (k + 1) a0 a1 a2 a3) := by
  intro a0 a1 a2 a3 k
  unfold board_Same.f
  repeat' first
      | (with_reducible exact value_Value_20.mono _ _ _)
      | (with_reducible exact LeO.refl _)
      | (with_reducible exact LeO.none _)
      | (with_reducible refine LeO.ite ?_ ?_)
      | (with_reducible refine LeO.bind ?_ (fun _ => ?_))
      | exact value_Value_20.mono _ _ _
      | exact LeO.none _
      | refine LeO.ite ?_ ?_
      | refine LeO.bind ?_ (fun _ => ?_)
set_option maxHeartbeats 8000000 in
set_option maxRecDepth 100000 in
theorem board_Same.calls (k : Nat) (A0_0 : Option Addr) (c0_0 : Nat) (l0_0 : List (S63)) (a0_1 : ByteArray) (A1_0 : Option Addr) (c1_0 : Nat) (l1_0 : List (S63)) (a1_1 : ByteArray) (r : Bool) (w : World) (hr0_0 : Kd.C k63 w A0_0 l0_0.length l0_0) (hc0_0 : l0_0.length ≤ c0_0) (hr1_0 : Kd.C k63 w A1_0 l1_0.length l1_0) (hc1_0 : l1_0.length ≤ c1_0) (h : board_Same.f k l0_0 a0_1 l1_0 a1_1 = some r) :
    Calls Try.prog 9 #[.agg #[.slice A0_0 l0_0.length c0_0, .string a0_1], .agg #[.slice A1_0 l1_0.length c1_0, .string a1_1]] w fun e w' => e = .returned (.bool r) ∧ Below w.heap.size w w' := by
  have hu24 := Try.underlying24
  have HR0_0 := Aside0.mk hr0_0
  have HC0_0 := Aside0.mk hc0_0
  clear hr0_0 hc0_0
  have HR1_0 := Aside0.mk hr1_0
  have HC1_0 := Aside0.mk hc1_0
  clear hr1_0 hc1_0
  have HB := Aside0.mk (Below.refl w.heap.size w)
  have H : (if a0_1.toList = a1_1.toList then ((value_Value_20.f k l0_0 l1_0).bind fun t198 => (some t198)) else (some false)) = some r := h
  clear h
  by_cases c3 : a0_1.toList = a1_1.toList
  · rw [if_pos c3] at H
    have c3b0 : (a0_1.toList == a1_1.toList) = true := beq_iff_eq.mpr c3
    have c3b1 : (a0_1.toList != a1_1.toList) = false := bne_eq_false_iff_eq.mpr c3
    clear c3
    replace H := Option.bind_eq_some_iff.mp H
    obtain ⟨t198, A40, H⟩ := H
    replace H : (some t198) = some r := H
    have A4 := Aside0.mk A40
    clear A40
    obtain rfl := Option.some.inj H
    go_enter Try.func9, Try.ntmps9
    go_wp2_with (first | ((with_reducible refine gate_dst (N := 2) rfl ?_); refine box_event ?hg (N := 2) ?hd (cs := #[.slice A0_0 l0_0.length c0_0, .string a0_1]) (t := 24) ?hr ?_; (case hd => rfl); (case hg => rfl); (case hr => first | (go_simp; done) | (go_simp; rfl)); intro gb196 hg w5 hbox hb; have n0_ := Aside0.mk (below_step (by repeat (first | (with_reducible first | exact HB.out | apply below_alloc | apply pw_below_drewN | apply below_drew1) | exact HB.out)) hb); have n1_ := Aside0.mk (hbox); have n2_ := Aside0.mk ((by rw [hg]; exact (below_size (by repeat (first | (with_reducible first | exact HB.out | apply below_alloc | apply pw_below_drewN | apply below_drew1) | exact HB.out))) : w.heap.size ≤ gb196)); have n3_ := Aside0.mk ((by rw [hg]; exact (below_size (by repeat (first | (with_reducible first | exact HB.out | apply below_alloc | apply pw_below_drewN | apply below_drew1) | exact HB.out))) : w.heap.size ≤ gb196)); clear HB; have HB := n0_; have BK196 := n1_; have GW196 := n2_; have GE196 := n3_; clear n0_ n1_ n2_ n3_; clear hb hbox hg) | ((with_reducible refine gate_dst (N := 3) rfl ?_); refine box_event ?hg (N := 3) ?hd (cs := #[.slice A1_0 l1_0.length c1_0, .string a1_1]) (t := 24) ?hr ?_; (case hd => rfl); (case hg => rfl); (case hr => first | (go_simp; done) | (go_simp; rfl)); intro gb197 hg w6 hbox hb; have n0_ := Aside0.mk (blk_below (g := gb196) (o := .cells #[.slice A0_0 l0_0.length c0_0, .string a0_1] 24 (0, 0)) (by (with_reducible repeat (first | refine blk_drewN ?_ _ | refine blk_drew ?_ | refine blk_alloc ?_ _)); exact BK196.out) hb); have n1_ := Aside0.mk (below_step (by repeat (first | (with_reducible first | exact HB.out | apply below_alloc | apply pw_below_drewN | apply below_drew1 | refine below_set ?_ GE196.out) | exact HB.out)) hb); have n2_ := Aside0.mk (hbox); have n3_ := Aside0.mk ((by rw [hg]; exact (below_size (by repeat (first | (with_reducible first | exact HB.out | apply below_alloc | apply pw_below_drewN | apply below_drew1 | refine below_set ?_ GE196.out) | exact HB.out))) : w.heap.size ≤ gb197)); have n4_ := Aside0.mk ((by rw [hg]; exact (below_size (by repeat (first | (with_reducible first | exact HB.out | apply below_alloc | apply pw_below_drewN | apply below_drew1 | refine below_set ?_ GE196.out) | exact HB.out))) : w.heap.size ≤ gb197)); have n5_ := Aside0.mk ((by rw [hg]; exact Nat.ne_of_lt (blk_lt (g := gb196) (o := .cells #[.slice A0_0 l0_0.length c0_0, .string a0_1] 24 (0, 0)) (by (with_reducible repeat (first | refine blk_drewN ?_ _ | refine blk_drew ?_ | refine blk_alloc ?_ _)); exact BK196.out)) : gb196 ≠ gb197)); have n6_ := Aside0.mk ((by rw [hg]; exact Nat.ne_of_gt (blk_lt (g := gb196) (o := .cells #[.slice A0_0 l0_0.length c0_0, .string a0_1] 24 (0, 0)) (by (with_reducible repeat (first | refine blk_drewN ?_ _ | refine blk_drew ?_ | refine blk_alloc ?_ _)); exact BK196.out)) : gb197 ≠ gb196)); clear BK196; clear HB; have BK196 := n0_; have HB := n1_; have BK197 := n2_; have GW197 := n3_; have GE197 := n4_; have NB196_197 := n5_; have NB197_196 := n6_; clear n0_ n1_ n2_ n3_ n4_ n5_ n6_; clear hb hbox hg; have hnb7 := NB196_197.out; have hnc7 := NB197_196.out; have hcz8_0 : w6.cell? ⟨gb196, 0, none⟩ = some (.slice A0_0 l0_0.length c0_0) := (blk_cell BK196.out 0).trans rfl; have hcz8_1 : w6.cell? ⟨gb196, 1, none⟩ = some (.string a0_1) := (blk_cell BK196.out 1).trans rfl; have hfz8_0 := blk_frozen BK196.out 0; have hfz8_1 := blk_frozen BK196.out 1; have hcz9_0 : w6.cell? ⟨gb197, 0, none⟩ = some (.slice A1_0 l1_0.length c1_0) := (blk_cell BK197.out 0).trans rfl; have hcz9_1 : w6.cell? ⟨gb197, 1, none⟩ = some (.string a1_1) := (blk_cell BK197.out 1).trans rfl; have hfz9_0 := blk_frozen BK197.out 0; have hfz9_1 := blk_frozen BK197.out 1) | (go_at_call 20; (with_reducible refine (value_Value_20.calls k _ _ l0_0 _ _ l1_0 t198 _ ?side1 ?side2 ?side3 ?side4 A4.out).mono ?_); (case side1 => repeat (first | exact (Kd.C_below HR0_0.out HB.out) | (with_reducible refine Kd.C_alloc ?_ _) | (with_reducible refine Kd.C_drewN ?_ _) | (with_reducible refine Kd.C_drew ?_))); (case side2 => exact HC0_0.out); (case side3 => repeat (first | exact (Kd.C_below HR1_0.out HB.out) | (with_reducible refine Kd.C_alloc ?_ _) | (with_reducible refine Kd.C_drewN ?_ _) | (with_reducible refine Kd.C_drew ?_))); (case side4 => exact HC1_0.out); rintro e w' ⟨rfl, ⟨nd, rfl⟩⟩))
    go_ret
    exact ⟨by first | rfl | (simp [errW_none, errW_some] <;> rfl) | (simp [*, errW_none, errW_some] <;> rfl), by repeat (first | (with_reducible first | exact HB.out | apply below_alloc | apply pw_below_drewN | apply below_drew1 | refine below_set ?_ GE196.out | refine below_set ?_ GE197.out) | exact HB.out)⟩
  · rw [if_neg c3] at H
    have c3b0 : (a0_1.toList == a1_1.toList) = false := beq_eq_false_iff_ne.mpr c3
    have c3b1 : (a0_1.toList != a1_1.toList) = true := bne_iff_ne.mpr c3
    obtain rfl := Option.some.inj H
    go_enter Try.func9, Try.ntmps9
    go_wp2_with (first | ((with_reducible refine gate_dst (N := 2) rfl ?_); refine box_event ?hg (N := 2) ?hd (cs := #[.slice A0_0 l0_0.length c0_0, .string a0_1]) (t := 24) ?hr ?_; (case hd => rfl); (case hg => rfl); (case hr => first | (go_simp; done) | (go_simp; rfl)); intro gb196 hg w10 hbox hb; have n0_ := Aside0.mk (below_step (by repeat (first | (with_reducible first | exact HB.out | apply below_alloc | apply pw_below_drewN | apply below_drew1) | exact HB.out)) hb); have n1_ := Aside0.mk (hbox); have n2_ := Aside0.mk ((by rw [hg]; exact (below_size (by repeat (first | (with_reducible first | exact HB.out | apply below_alloc | apply pw_below_drewN | apply below_drew1) | exact HB.out))) : w.heap.size ≤ gb196)); have n3_ := Aside0.mk ((by rw [hg]; exact (below_size (by repeat (first | (with_reducible first | exact HB.out | apply below_alloc | apply pw_below_drewN | apply below_drew1) | exact HB.out))) : w.heap.size ≤ gb196)); clear HB; have HB := n0_; have BK196 := n1_; have GW196 := n2_; have GE196 := n3_; clear n0_ n1_ n2_ n3_; clear hb hbox hg) | ((with_reducible refine gate_dst (N := 3) rfl ?_); refine box_event ?hg (N := 3) ?hd (cs := #[.slice A1_0 l1_0.length c1_0, .string a1_1]) (t := 24) ?hr ?_; (case hd => rfl); (case hg => rfl); (case hr => first | (go_simp; done) | (go_simp; rfl)); intro gb197 hg w11 hbox hb; have n0_ := Aside0.mk (blk_below (g := gb196) (o := .cells #[.slice A0_0 l0_0.length c0_0, .string a0_1] 24 (0, 0)) (by (with_reducible repeat (first | refine blk_drewN ?_ _ | refine blk_drew ?_ | refine blk_alloc ?_ _)); exact BK196.out) hb); have n1_ := Aside0.mk (below_step (by repeat (first | (with_reducible first | exact HB.out | apply below_alloc | apply pw_below_drewN | apply below_drew1 | refine below_set ?_ GE196.out) | exact HB.out)) hb); have n2_ := Aside0.mk (hbox); have n3_ := Aside0.mk ((by rw [hg]; exact (below_size (by repeat (first | (with_reducible first | exact HB.out | apply below_alloc | apply pw_below_drewN | apply below_drew1 | refine below_set ?_ GE196.out) | exact HB.out))) : w.heap.size ≤ gb197)); have n4_ := Aside0.mk ((by rw [hg]; exact (below_size (by repeat (first | (with_reducible first | exact HB.out | apply below_alloc | apply pw_below_drewN | apply below_drew1 | refine below_set ?_ GE196.out) | exact HB.out))) : w.heap.size ≤ gb197)); have n5_ := Aside0.mk ((by rw [hg]; exact Nat.ne_of_lt (blk_lt (g := gb196) (o := .cells #[.slice A0_0 l0_0.length c0_0, .string a0_1] 24 (0, 0)) (by (with_reducible repeat (first | refine blk_drewN ?_ _ | refine blk_drew ?_ | refine blk_alloc ?_ _)); exact BK196.out)) : gb196 ≠ gb197)); have n6_ := Aside0.mk ((by rw [hg]; exact Nat.ne_of_gt (blk_lt (g := gb196) (o := .cells #[.slice A0_0 l0_0.length c0_0, .string a0_1] 24 (0, 0)) (by (with_reducible repeat (first | refine blk_drewN ?_ _ | refine blk_drew ?_ | refine blk_alloc ?_ _)); exact BK196.out)) : gb197 ≠ gb196)); clear BK196; clear HB; have BK196 := n0_; have HB := n1_; have BK197 := n2_; have GW197 := n3_; have GE197 := n4_; have NB196_197 := n5_; have NB197_196 := n6_; clear n0_ n1_ n2_ n3_ n4_ n5_ n6_; clear hb hbox hg; have hnb12 := NB196_197.out; have hnc12 := NB197_196.out; have hcz13_0 : w11.cell? ⟨gb196, 0, none⟩ = some (.slice A0_0 l0_0.length c0_0) := (blk_cell BK196.out 0).trans rfl; have hcz13_1 : w11.cell? ⟨gb196, 1, none⟩ = some (.string a0_1) := (blk_cell BK196.out 1).trans rfl; have hfz13_0 := blk_frozen BK196.out 0; have hfz13_1 := blk_frozen BK196.out 1; have hcz14_0 : w11.cell? ⟨gb197, 0, none⟩ = some (.slice A1_0 l1_0.length c1_0) := (blk_cell BK197.out 0).trans rfl; have hcz14_1 : w11.cell? ⟨gb197, 1, none⟩ = some (.string a1_1) := (blk_cell BK197.out 1).trans rfl; have hfz14_0 := blk_frozen BK197.out 0; have hfz14_1 := blk_frozen BK197.out 1))
    go_ret
    exact ⟨by first | rfl | (simp [errW_none, errW_some] <;> rfl) | (simp [*, errW_none, errW_some] <;> rfl), by repeat (first | (with_reducible first | exact HB.out | apply below_alloc | apply pw_below_drewN | apply below_drew1 | refine below_set ?_ GE196.out | refine below_set ?_ GE197.out) | exact HB.out)⟩

end Go.Proofs.Ytlokmijoaocofaa.PBoardAgain
end
section
/-
  wigwaglaw05.Event, walked: an event of at most 6 values, its texts cut. Condition: texts at most 2^63 - 1 bytes.
-/
namespace Go.Proofs.Ytlokmijoaocofaa.Mine
open Go.RowKit Go.Proofs.YtlokmijoaocofaaW.PrintWords Go.Proofs.YtlokmijoaocofaaW.PrintLast Go.Proofs.YtlokmijoaocofaaW.PrintMore
open Go.Proofs.Ytlokmijoaocofaa.PBoardAgain
abbrev RV := S29
def toV (x : SV) : RV := ⟨x.f0, x.f1⟩
def cutV (x : SV) : SV := ⟨x.f0, cutB x.f1 50⟩
def evOf (V : List SV) : List SV := (V.take 6).map cutV
theorem ev_snoc (L : List SV) (i : Nat) (h : i < L.length) : (L.take (i + 1)).map cutV = (L.take i).map cutV ++ [cutV (L.getD i z63)] := by
  rw [List.take_succ_eq_append_getElem h, List.map_append, List.getD_eq_getElem?_getD, List.getElem?_eq_getElem h]
  rfl
set_option maxHeartbeats 4000000 in
set_option maxRecDepth 100000 in
theorem event5_calls (A : Option Addr) (n c : Nat) (L : List SV) (pay : ByteArray) (w : World) (hn : L.length = n) (hr : Kd.C k63 w A n L) (hc : n ≤ c) (hnm : ∀ p ∈ L, p.f1.size ≤ 9223372036854775807) (hpay : pay.size ≤ 9223372036854775807) (hn2 : n ≤ 9223372036854775807) :
    Calls Try.prog 7 #[encE A n c pay] w fun e w' => ∃ v0 v1, e = .returned (.tuple #[.agg #[v0, .string (cutB pay 210)], v1]) ∧ Kd.R k63 63 w' w.heap.size (fun _ => True) v0 (evOf L) ∧ Kd.R k29 29 w' w.heap.size (fun _ => True) v1 ((evOf L).map toV) ∧ Below w.heap.size w w' := by
  have HR := Aside0.mk hr
  have HN := Aside0.mk hn
  have HNM := Aside0.mk hnm
  have HP := Aside0.mk hpay
  have HCP := Aside0.mk (fun W => cut_P pay 210 W HP.out (by omega))
  generalize cutB pay 210 = pay2 at HCP ⊢
  clear hr hn hnm hpay
  unfold encE
  go_enter Try.func7, Try.ntmps7
  go_wp2_with fail
  refine (HCP.out _).mono ?_
  rintro e w1 ⟨rfl, rfl⟩
  go_wp2_with fail
  obtain ⟨g1, hg1⟩ : ∃ g, g = w.heap.size := ⟨_, rfl⟩
  have hs1 : (w.alloc (.cells #[.slice A n c, .string pay] 24)).heap.size = w.heap.size + 1 := by show (w.heap.push _).size = _; exact Array.size_push _
  generalize hW1 : w.alloc (.cells #[.slice A n c, .string pay] 24) = W1 at hs1 ⊢
  have hs2 : (W1.alloc (.cells #[.slice none 0 0, .string ⟨#[]⟩] 24)).heap.size = w.heap.size + 2 := by show (W1.heap.push _).size = _; rw [Array.size_push, hs1]
  generalize hW2 : W1.alloc (.cells #[.slice none 0 0, .string ⟨#[]⟩] 24) = W2 at hs2 ⊢
  have hs3 : (W2.alloc (.cells #[] 29)).heap.size = w.heap.size + 3 := by show (W2.heap.push _).size = _; rw [Array.size_push, hs2]
  have ho5 := World.ownsRow_lit (base := w.heap.size) (e := 29) (size := 2) W2 #[] 0 (by rw [hs2]; omega) (by decide) rfl
  generalize hW3 : W2.alloc (.cells #[] 29) = W3 at hs3 ho5 ⊢
  have k1 : W1.heap[w.heap.size]? = some (.cells #[.slice A n c, .string pay] 24 (0, 0)) := by rw [← hW1]; exact blk_new w _
  have k2 : W2.heap[w.heap.size + 1]? = some (.cells #[.slice none 0 0, .string ⟨#[]⟩] 24 (0, 0)) := by rw [← hW2, ← hs1]; exact blk_new W1 _
  have k1' : W2.heap[w.heap.size]? = some (.cells #[.slice A n c, .string pay] 24 (0, 0)) := by rw [← hW2]; exact (Below.heap_alloc W1 _ _ (by omega)).trans k1
  have k2' : W3.heap[w.heap.size + 1]? = some (.cells #[.slice none 0 0, .string ⟨#[]⟩] 24 (0, 0)) := by rw [← hW3]; exact (Below.heap_alloc W2 _ _ (by omega)).trans k2
  have k1'' : W3.heap[w.heap.size]? = some (.cells #[.slice A n c, .string pay] 24 (0, 0)) := by rw [← hW3]; exact (Below.heap_alloc W2 _ _ (by omega)).trans k1'
  have hb3 : Below w.heap.size w W3 := by rw [← hW3, ← hW2, ← hW1]; exact below_alloc (below_alloc (below_alloc (Below.refl _ _) _) _) _
  have K1 := Aside0.mk ((Below.heap_alloc W3 (.cells #[.slice none 0 0, .string pay2] 24) _ (by omega)).trans k1'')
  have K2 := Aside0.mk ((Below.heap_alloc W3 (.cells #[.slice none 0 0, .string pay2] 24) _ (by omega)).trans k2')
  have K4 := Aside0.mk (show (W3.alloc (.cells #[.slice none 0 0, .string pay2] 24)).heap[w.heap.size + 3]? = some (.cells #[.slice none 0 0, .string pay2] 24 (0, 0)) by rw [← hs3]; exact blk_new W3 _)
  have HB := Aside0.mk (below_alloc hb3 (.cells #[.slice none 0 0, .string pay2] 24))
  rw [hs2] at ho5
  have hown5 : Kd.R k29 29 W3 w.heap.size (fun k => k ≠ w.heap.size ∧ k ≠ w.heap.size + 1 ∧ k ≠ w.heap.size + 3) (.slice (some ⟨w.heap.size + 2, 0, none⟩) 0 0) ([] : List RV) := by
    refine ⟨fun k hk => ?_, [], ho5, Reps.none _ _⟩
    have hk2 : w.heap.size + 2 = k := by simpa [Value.ownBlock] using hk
    exact ⟨by omega, by omega, by omega⟩
  have HO5 := Aside0.mk (Kd.R_alloc hown5 (.cells #[.slice none 0 0, .string pay2] 24))
  rw [show w.heap.size + 1 + 1 = w.heap.size + 2 by omega, show w.heap.size + 2 + 1 = w.heap.size + 3 by omega]
  generalize W3.alloc (.cells #[.slice none 0 0, .string pay2] 24) = w0 at K1 K2 K4 HB HO5 ⊢
  obtain ⟨g2, hg2⟩ : ∃ g, g = w.heap.size + 1 := ⟨_, rfl⟩
  obtain ⟨g4, hg4⟩ : ∃ g, g = w.heap.size + 3 := ⟨_, rfl⟩
  have HGN := Aside0.mk (show w.heap.size ≤ g2 ∧ w.heap.size ≤ g4 ∧ w.heap.size ≠ g4 ∧ g2 ≠ g4 ∧ w.heap.size ≠ g2 by omega)
  rw [← hg2, ← hg4] at HO5
  rw [← hg2] at K2
  rw [← hg4] at K4
  rw [← hg2, ← hg4]
  generalize Value.slice (some { block := w.heap.size + 2, off := 0 }) 0 0 = v50 at HO5 ⊢
  clear hW1 hW2 hW3 hs1 hs2 hs3 ho5 k1 k2 k1' k2' k1'' hb3 hown5 hg1 hg2 hg4
  have HO4 := Aside0.mk (Kd.R_nil k63 63 w0 w.heap.size (fun k => k ≠ w.heap.size ∧ k ≠ g2 ∧ k ≠ g4))
  go_loopg [5, 6, 7] 8 (fun k v5 v6 v7 W => ∃ (i : Nat) (A4 : Option Addr) (n4 c4 : Nat), Aside0 (i ≤ n ∧ i ≤ 6 ∧ k + i = 8) ∧ v6 = .int .i64 (i : Int) ∧ Aside0 (Kd.R k63 63 W w.heap.size (fun k => k ≠ w.heap.size ∧ k ≠ g2 ∧ k ≠ g4) (.slice A4 n4 c4) ((L.take i).map cutV)) ∧ Aside0 (Kd.R k29 29 W w.heap.size (fun k => k ≠ w.heap.size ∧ k ≠ g2 ∧ k ≠ g4) v5 (((L.take i).map cutV).map toV)) ∧ Aside0 (W.heap[w.heap.size]? = some (.cells #[.slice A n c, .string pay] 24 (0, 0))) ∧ Aside0 (W.heap[g2]? = some (.cells #[.slice none 0 0, .string ⟨#[]⟩] 24 (0, 0))) ∧ Aside0 (W.heap[g4]? = some (.cells #[.slice A4 n4 c4, .string pay2] 24 (0, 0))) ∧ Aside0 (Below w.heap.size w W))
  case atStart => exact ⟨0, none, 0, 0, ⟨by omega, by omega, by omega⟩, rfl, HO4, HO5, K1, K2, K4, HB⟩
  case round =>
    clear HO4 HO5 HB K1 K2 K4
    obtain ⟨i, A4, n4, c4, HI, rfl, HO4, HO5, K1, K2, K4, HB⟩ := hrel
    have y10 := (blk_cell K1.out 0).trans (show _ = some (Value.slice A n c) from rfl)
    have y40 := (blk_cell K4.out 0).trans (show _ = some (Value.slice A4 n4 c4) from rfl)
    have y41 := (blk_cell K4.out 1).trans (show _ = some (Value.string pay2) from rfl)
    have y20 := (blk_cell K2.out 0).trans (show _ = some (Value.slice none 0 0) from rfl)
    have y21 := (blk_cell K2.out 1).trans (show _ = some (Value.string ⟨#[]⟩) from rfl)
    have f20 := blk_frozen K2.out 0
    have f21 := blk_frozen K2.out 1
    have f40 := blk_frozen K4.out 0
    by_cases hi : i < n
    · have b1 : decide ((i : Int) < (n : Int)) = true := decide_eq_true (by omega)
      have b2 : decide (i < n) = true := decide_eq_true (by omega)
      have p1 : (0 : Int) ≤ (i : Int) := by omega
      have p2 : (i : Int) < (n : Int) := by omega
      by_cases h6 : i < 6
      · have b3 : decide ((i : Int) < 6) = true := decide_eq_true (by omega)
        obtain ⟨ad, e, h0, h1⟩ := at_T63 (Kd.C_below HR.out HB.out) i p1 p2
        cases e
        rw [Int.toNat_natCast] at h0 h1
        have hrd : rd_T63 L (i : Int) = L.getD i z63 := rfl
        rw [hrd] at h0 h1
        have hs := ev_snoc L i (by have := HN.out; omega)
        have hz : (L.getD i z63).f1.size ≤ 9223372036854775807 := HNM.out _ (by rw [List.getD_eq_getElem?_getD, List.getElem?_eq_getElem (by have := HN.out; omega)]; exact List.getElem_mem _)
        have HS := Aside0.mk hs
        clear hrd hs
        generalize L.getD i z63 = p at h0 h1 hz HS
        go_wp2_with fail
        refine (cut_P p.f1 50 _ hz (by omega)).mono ?_
        rintro e w1 ⟨rfl, rfl⟩
        generalize hcut : cutB p.f1 50 = st
        have HC := Aside0.mk (show cutV p = ⟨p.f0, st⟩ by unfold cutV; rw [hcut])
        clear hcut
        go_upto_region 7 with (fail)
        have KB7 : Aside0 ((wr.alloc (.cells #[.int .i64 p.f0, .string st] 63)).heap[wr.heap.size]? = some (.cells #[.int .i64 p.f0, .string st] 63 (0, 0))) := ⟨heap_alloc_new wr _⟩
        have l1 := blk_lt K1.out
        have l2 := blk_lt K2.out
        have l4 := blk_lt K4.out
        have HLV := Aside0.mk (fun k (hk : (Value.slice A4 n4 c4).ownBlock = some k) => (Kd.R_bound HO4.out).1 k hk |>.2.2.1)
        have HLU := Aside0.mk (fun k (hk : u5.ownBlock = some k) => (Kd.R_bound HO5.out).1 k hk |>.2.2.1)
        have n0_ := Aside0.mk ((Below.heap_alloc wr (.cells #[.int .i64 p.f0, .string st] 63) _ l1).trans K1.out)
        have n1_ := Aside0.mk ((Below.heap_alloc wr (.cells #[.int .i64 p.f0, .string st] 63) _ l2).trans K2.out)
        have n2_ := Aside0.mk ((Below.heap_alloc wr (.cells #[.int .i64 p.f0, .string st] 63) _ l4).trans K4.out)
        have n3_ := Aside0.mk (below_alloc HB.out (.cells #[.int .i64 p.f0, .string st] 63))
        have n4_ := Aside0.mk (Kd.R_alloc HO4.out (.cells #[.int .i64 p.f0, .string st] 63))
        have n5_ := Aside0.mk (Kd.R_alloc HO5.out (.cells #[.int .i64 p.f0, .string st] 63))
        have HL4 := Aside0.mk (show g4 ≠ wr.heap.size by omega)
        clear K1 K2 K4 HB HO4 HO5 h0 h1 y10 y40 y41 y20 y21 f20 f21 f40 l1 l2 l4
        have K1 := n0_
        have K2 := n1_
        have K4 := n2_
        have HB := n3_
        have HO4 := n4_
        have HO5 := n5_
        clear n0_ n1_ n2_ n3_ n4_ n5_
        generalize wr.alloc (.cells #[.int .i64 p.f0, .string st] 63) = w2 at KB7 K1 K2 K4 HB HO4 HO5 ⊢
        generalize wr.heap.size = g7 at KB7 HLV HLU HL4 ⊢
        have y0 := (blk_cell KB7.out 0).trans (show _ = some (Value.int .i64 p.f0) from rfl)
        have y1 := (blk_cell KB7.out 1).trans (show _ = some (Value.string st) from rfl)
        have y40 := (blk_cell K4.out 0).trans (show _ = some (Value.slice A4 n4 c4) from rfl)
        have f40 := blk_frozen K4.out 0
        have hbd : ((L.take i).map cutV).length ≤ 6 := by simp; omega
        have hbd2 : (((L.take i).map cutV).map toV).length ≤ 6 := by simp; omega
        have HBD := Aside0.mk (And.intro hbd hbd2)
        clear hbd hbd2
        go_upto_region 8 with ((with_reducible refine gate_builtin (b := .append) (xs := #[.tmp 34, .tmp 36]) rfl ?_); at_builtin; go_loud (refine Kd.R_append k63 (w0 := w) w.heap.size rfl (.tmp 34) (.tmp 36) 22 63 (.agg #[(.int .i64 0), (.string ⟨#[]⟩)]) 24 rfl Try.underlying22 info63 rfl (by decide) (by omega) _ _ (⟨p.f0, st⟩ : SV) [.int .i64 p.f0, .string st] (fun k => k ≠ w.heap.size ∧ k ≠ g2 ∧ k ≠ g4) (fun _ => False) rfl ?aX ?aP (fun _ hk => hk.elim) ?aF HO4.out HB.out HB.out.size ?aL ?_; (case aX => first | rfl | (go_simp; done) | (go_simp; rfl)); (case aP => exact k63_mkM _ _ _ (⟨p.f0, st⟩ : SV)); (case aF => exact (fun k hk => by have l1 := blk_lt K1.out; have l2 := blk_lt K2.out; have l4 := blk_lt K4.out; exact ⟨by omega, by omega, by omega⟩)); (case aL => have := HBD.out; omega); intro v9 w9 ho hb hg hat; obtain ⟨A9, c9, rfl, _, _⟩ := Kd.R_reads ho; generalize ((L.take i).map cutV ++ [(⟨p.f0, st⟩ : SV)]).length = n9 at ho hat ⊢; have n0_ := Aside0.mk ((hg.block _ (blk_lt K1.out) (fun e => (HO4.out.1 _ e.symm).1 rfl)).trans K1.out); have n1_ := Aside0.mk ((hg.block _ (blk_lt K2.out) (fun e => (HO4.out.1 _ e.symm).2.1 rfl)).trans K2.out); have n2_ := Aside0.mk ((hg.block _ (blk_lt K4.out) (fun e => (HO4.out.1 _ e.symm).2.2 rfl)).trans K4.out); have n3_ := Aside0.mk hb; have n4_ := Aside0.mk ho; have n5_ := Aside0.mk (Kd.R_mono (Kd.R_grown (Kd.R_apartR HO5.out HO4.out (by decide)) hg (fun k hk => hk.2)) (ok' := fun k => k ≠ w.heap.size ∧ k ≠ g2 ∧ k ≠ g4) (fun _ hk => hk.1)); have n6_ := Aside0.mk ((hg.block _ (blk_lt KB7.out) (fun e => absurd (HLV.out _ e.symm) (Nat.lt_irrefl _))).trans KB7.out); clear K1 K2 K4 HB HO4 HO5 KB7 ho hb hg hat y0 y1 y40 f40; have K1 := n0_; have K2 := n1_; have K4 := n2_; have HB := n3_; have HO4 := n4_; have HO5 := n5_; have KB7 := n6_; clear n0_ n1_ n2_ n3_ n4_ n5_ n6_; have y40 := (blk_cell K4.out 0).trans (show _ = some (Value.slice A4 n4 c4) from rfl); have f40 := blk_frozen K4.out 0))
        have k4 : (w9.setCell ⟨g4, 0, none⟩ (.slice A9 n9 c9)).heap[g4]? = some (.cells #[.slice A9 n9 c9, .string pay2] 24 (0, 0)) := by simpa using blk_set K4.out 0 (.slice A9 n9 c9)
        have n0_ := Aside0.mk ((Below.heap_setCell w9 ⟨g4, 0, none⟩ (.slice A9 n9 c9) _ HGN.out.2.2.1).trans K1.out)
        have n1_ := Aside0.mk ((Below.heap_setCell w9 ⟨g4, 0, none⟩ (.slice A9 n9 c9) _ HGN.out.2.2.2.1).trans K2.out)
        have n2_ := Aside0.mk k4
        have n3_ := Aside0.mk (below_set (j := 0) (v := .slice A9 n9 c9) HB.out HGN.out.2.1)
        have n4_ := Aside0.mk (Kd.R_far (p := ⟨g4, 0, none⟩) HO4.out (fun k hk => hk.2.2) (.slice A9 n9 c9))
        have n5_ := Aside0.mk (Kd.R_far (p := ⟨g4, 0, none⟩) HO5.out (fun k hk => hk.2.2) (.slice A9 n9 c9))
        have n6_ := Aside0.mk ((Below.heap_setCell w9 ⟨g4, 0, none⟩ (.slice A9 n9 c9) _ (fun e => HL4.out e.symm)).trans KB7.out)
        clear K1 K2 K4 HB HO4 HO5 KB7 k4 y40 f40
        have K1 := n0_
        have K2 := n1_
        have K4 := n2_
        have HB := n3_
        have HO4 := n4_
        have HO5 := n5_
        have KB7 := n6_
        clear n0_ n1_ n2_ n3_ n4_ n5_ n6_
        generalize w9.setCell ⟨g4, 0, none⟩ (.slice A9 n9 c9) = w3 at K1 K2 K4 HB HO4 HO5 KB7 ⊢
        have y0 := (blk_cell KB7.out 0).trans (show _ = some (Value.int .i64 p.f0) from rfl)
        have y1 := (blk_cell KB7.out 1).trans (show _ = some (Value.string st) from rfl)
        go_wp2_with ((with_reducible refine gate_builtin (b := .append) (xs := #[.tmp 39, .tmp 41]) rfl ?_); at_builtin; go_loud (refine Kd.R_append k29 (w0 := w) w.heap.size rfl (.tmp 39) (.tmp 41) 25 29 (.agg #[(.int .i64 0), (.string ⟨#[]⟩)]) 24 rfl Try.underlying25 info29 rfl (by decide) (by omega) _ _ (⟨p.f0, st⟩ : RV) [.int .i64 p.f0, .string st] (fun k => k ≠ w.heap.size ∧ k ≠ g2 ∧ k ≠ g4) (fun _ => False) rfl ?aX ?aP (fun _ hk => hk.elim) ?aF HO5.out HB.out HB.out.size ?aL ?_; (case aX => first | rfl | (go_simp; done) | (go_simp; rfl)); (case aP => exact k29_mkM _ _ _ (⟨p.f0, st⟩ : RV)); (case aF => exact (fun k hk => by have l1 := blk_lt K1.out; have l2 := blk_lt K2.out; have l4 := blk_lt K4.out; exact ⟨by omega, by omega, by omega⟩)); (case aL => have := HBD.out; omega); intro v9 w9 ho hb hg hat; have n0_ := Aside0.mk ((hg.block _ (blk_lt K1.out) (fun e => (HO5.out.1 _ e.symm).1 rfl)).trans K1.out); have n1_ := Aside0.mk ((hg.block _ (blk_lt K2.out) (fun e => (HO5.out.1 _ e.symm).2.1 rfl)).trans K2.out); have n2_ := Aside0.mk ((hg.block _ (blk_lt K4.out) (fun e => (HO5.out.1 _ e.symm).2.2 rfl)).trans K4.out); have n3_ := Aside0.mk hb; have n5_ := Aside0.mk ho; have n4_ := Aside0.mk (Kd.R_mono (Kd.R_grown (Kd.R_apartR HO4.out HO5.out (by decide)) hg (fun k hk => hk.2)) (ok' := fun k => k ≠ w.heap.size ∧ k ≠ g2 ∧ k ≠ g4) (fun _ hk => hk.1)); clear K1 K2 K4 HB HO4 HO5 KB7 ho hb hg hat y0 y1; have K1 := n0_; have K2 := n1_; have K4 := n2_; have HB := n3_; have HO4 := n4_; have HO5 := n5_; clear n0_ n1_ n2_ n3_ n4_ n5_))
        go_roundg (gk - 1)
        case measure => have := HI.out; omega
        case rel => exact ⟨i + 1, _, _, _, ⟨by omega, by omega, by have := HI.out; omega⟩, rfl, ⟨by rw [HS.out, HC.out]; exact HO4.out⟩, ⟨by rw [HS.out, HC.out, List.map_append]; exact HO5.out⟩, K1, K2, K4, HB⟩
      · have b3 : decide ((i : Int) < 6) = false := decide_eq_false (by omega)
        have hE : evOf L = (L.take i).map cutV := by unfold evOf; rw [show i = 6 by have := HI.out; omega]
        have HE := Aside0.mk hE
        clear hE
        rw [← HE.out] at HO4 HO5
        go_wp2
        have za : (wr.setCell ⟨g2, 0, none⟩ (.slice A4 n4 c4)).heap[g2]? = some (.cells #[.slice A4 n4 c4, .string ⟨#[]⟩] 24 (0, 0)) := by simpa using blk_set K2.out 0 (.slice A4 n4 c4)
        have z : ((wr.setCell ⟨g2, 0, none⟩ (.slice A4 n4 c4)).setCell ⟨g2, 1, none⟩ (.string pay2)).heap[g2]? = some (.cells #[.slice A4 n4 c4, .string pay2] 24 (0, 0)) := by simpa using blk_set za 1 (.string pay2)
        clear za
        have hb := below_set (j := 1) (v := .string pay2) (below_set (j := 0) (v := .slice A4 n4 c4) HB.out HGN.out.1) HGN.out.1
        have h4 := Kd.R_mono (Kd.R_far (p := ⟨g2, 1, none⟩) (Kd.R_far (p := ⟨g2, 0, none⟩) HO4.out (fun k hk => hk.2.1) (.slice A4 n4 c4)) (fun k hk => hk.2.1) (.string pay2)) (ok' := fun _ => True) (fun _ _ => trivial)
        have h5 := Kd.R_mono (Kd.R_far (p := ⟨g2, 1, none⟩) (Kd.R_far (p := ⟨g2, 0, none⟩) HO5.out (fun k hk => hk.2.1) (.slice A4 n4 c4)) (fun k hk => hk.2.1) (.string pay2)) (ok' := fun _ => True) (fun _ _ => trivial)
        generalize (wr.setCell ⟨g2, 0, none⟩ (.slice A4 n4 c4)).setCell ⟨g2, 1, none⟩ (.string pay2) = w9 at z hb h4 h5 ⊢
        have z0 := (blk_cell z 0).trans (show _ = some (Value.slice A4 n4 c4) from rfl)
        have z1 := (blk_cell z 1).trans (show _ = some (Value.string pay2) from rfl)
        refine bodyPost_ret (v := .tuple #[.agg #[.slice A4 n4 c4, .string pay2], u5]) (by simp [results, Try.results7, go_sem, z0, z1]) rfl ⟨_, _, rfl, h4, h5, hb⟩
    · have b1 : decide ((i : Int) < (n : Int)) = false := decide_eq_false (by omega)
      have b2 : decide (i < n) = false := decide_eq_false (by omega)
      have hE : evOf L = (L.take i).map cutV := by
        unfold evOf
        have h1 : L.length ≤ i := by have := HN.out; omega
        rw [List.take_of_length_le h1, List.take_of_length_le (by have := HI.out; omega)]
      have HE := Aside0.mk hE
      clear hE
      rw [← HE.out] at HO4 HO5
      clear hi
      go_wp2
      have za : (wr.setCell ⟨g2, 0, none⟩ (.slice A4 n4 c4)).heap[g2]? = some (.cells #[.slice A4 n4 c4, .string ⟨#[]⟩] 24 (0, 0)) := by simpa using blk_set K2.out 0 (.slice A4 n4 c4)
      have z : ((wr.setCell ⟨g2, 0, none⟩ (.slice A4 n4 c4)).setCell ⟨g2, 1, none⟩ (.string pay2)).heap[g2]? = some (.cells #[.slice A4 n4 c4, .string pay2] 24 (0, 0)) := by simpa using blk_set za 1 (.string pay2)
      clear za
      have hb := below_set (j := 1) (v := .string pay2) (below_set (j := 0) (v := .slice A4 n4 c4) HB.out HGN.out.1) HGN.out.1
      have h4 := Kd.R_mono (Kd.R_far (p := ⟨g2, 1, none⟩) (Kd.R_far (p := ⟨g2, 0, none⟩) HO4.out (fun k hk => hk.2.1) (.slice A4 n4 c4)) (fun k hk => hk.2.1) (.string pay2)) (ok' := fun _ => True) (fun _ _ => trivial)
      have h5 := Kd.R_mono (Kd.R_far (p := ⟨g2, 1, none⟩) (Kd.R_far (p := ⟨g2, 0, none⟩) HO5.out (fun k hk => hk.2.1) (.slice A4 n4 c4)) (fun k hk => hk.2.1) (.string pay2)) (ok' := fun _ => True) (fun _ _ => trivial)
      generalize (wr.setCell ⟨g2, 0, none⟩ (.slice A4 n4 c4)).setCell ⟨g2, 1, none⟩ (.string pay2) = w9 at z hb h4 h5 ⊢
      have z0 := (blk_cell z 0).trans (show _ = some (Value.slice A4 n4 c4) from rfl)
      have z1 := (blk_cell z 1).trans (show _ = some (Value.string pay2) from rfl)
      refine bodyPost_ret (v := .tuple #[.agg #[.slice A4 n4 c4, .string pay2], u5]) (by simp [results, Try.results7, go_sem, z0, z1]) rfl ⟨_, _, rfl, h4, h5, hb⟩
end Go.Proofs.Ytlokmijoaocofaa.Mine
end
section
/-
  board.Same: two events are the same (plain law over the printed walk). Condition: at most 1000000 values.
-/
namespace Go.Proofs.Ytlokmijoaocofaa.Mine
open Go.RowKit Go.Proofs.YtlokmijoaocofaaW.PrintWords Go.Proofs.YtlokmijoaocofaaW.PrintLast Go.Proofs.YtlokmijoaocofaaW.PrintMore
open Go.Proofs.Ytlokmijoaocofaa.PBoardAgain
def eqV (x y : SV) : Bool := (x.f0 == y.f0) && (x.f1.toList == y.f1.toList)
def sameL : List SV → List SV → Bool
  | [], [] => true
  | x :: r, y :: s => eqV x y && sameL r s
  | _, _ => false
theorem sameL_len : ∀ (l1 l2 : List SV), l1.length ≠ l2.length → sameL l1 l2 = false
  | [], [], h => by simp at h
  | [], _ :: _, _ => rfl
  | _ :: _, [], _ => rfl
  | x :: r, y :: s, h => by
    unfold sameL
    rw [sameL_len r s (by simpa using h), Bool.and_false]
theorem sameL_refl : ∀ l : List SV, sameL l l = true
  | [] => rfl
  | x :: r => by
    unfold sameL
    rw [sameL_refl r]
    simp [eqV]
theorem same_l0 (l1 l2 : List SV) (hl : l1.length ≤ 1000000) (h2 : l2.length = l1.length) : ∀ (d k i : Nat), l1.length - i = d → i ≤ l1.length → d < k → value_Value_20.l0 k l1 l2 (l1.length : Int) (i : Int) = some (sameL (l1.drop i) (l2.drop i)) := by
  intro d
  induction d with
  | zero =>
    intro k i h0 hd hk
    obtain ⟨k, rfl⟩ : ∃ m, k = m + 1 := ⟨k - 1, by omega⟩
    simp only [value_Value_20.l0]
    rw [if_neg (by omega), List.drop_eq_nil_iff.2 (by omega), List.drop_eq_nil_iff.2 (by omega)]
    rfl
  | succ d ih =>
    intro k i h0 hd hk
    obtain ⟨k, rfl⟩ : ∃ m, k = m + 1 := ⟨k - 1, by omega⟩
    simp only [value_Value_20.l0]
    rw [if_pos (by omega), if_pos (by omega), if_pos (by omega), if_pos (by omega), wrap_in (by omega) (by omega), show (i : Int) + 1 = ((i + 1 : Nat) : Int) by omega]
    have e1 : l1.drop i = rd_T63 l1 (i : Int) :: l1.drop (i + 1) := by
      rw [List.drop_eq_getElem_cons (by omega)]
      show _ = l1.getD (Int.toNat (i : Int)) _ :: _
      rw [Int.toNat_natCast, List.getD_eq_getElem?_getD, List.getElem?_eq_getElem (by omega)]
      rfl
    have e2 : l2.drop i = rd_T63 l2 (i : Int) :: l2.drop (i + 1) := by
      rw [List.drop_eq_getElem_cons (by omega)]
      show _ = l2.getD (Int.toNat (i : Int)) _ :: _
      rw [Int.toNat_natCast, List.getD_eq_getElem?_getD, List.getElem?_eq_getElem (by omega)]
      rfl
    rw [e1, e2]
    generalize rd_T63 l1 (i : Int) = x
    generalize rd_T63 l2 (i : Int) = y
    unfold sameL
    cases hx : eqV x y with
    | true =>
      unfold eqV at hx
      simp only [Bool.and_eq_true] at hx
      rw [hx.1, hx.2, if_neg (by simp), Bool.true_and]
      exact ih k (i + 1) (by omega) (by omega) (by omega)
    | false =>
      unfold eqV at hx
      rw [if_pos (by cases h3 : (x.f0 == y.f0) <;> simp_all)]
      rfl
theorem same_f (l1 l2 : List SV) (hl : l1.length ≤ 1000000) : value_Value_20.f (l1.length + 1) l1 l2 = some (sameL l1 l2) := by
  unfold value_Value_20.f
  by_cases h : l2.length = l1.length
  · rw [if_pos (by omega)]
    exact same_l0 l1 l2 hl h l1.length _ 0 (by omega) (by omega) (by omega)
  · rw [if_neg (by omega), sameL_len l1 l2 (by omega)]
def sameEv (V1 : List SV) (p1 : ByteArray) (V2 : List SV) (p2 : ByteArray) : Bool := (p1.toList == p2.toList) && sameL V1 V2
theorem same_calls (A B : Option Addr) (n m c d : Nat) (V1 V2 : List SV) (p1 p2 : ByteArray) (w : World) (hn : V1.length = n) (hm : V2.length = m) (hr : Kd.C k63 w A n V1) (hr2 : Kd.C k63 w B m V2) (hc : n ≤ c) (hd : m ≤ d) (hl : n ≤ 1000000) :
    Calls Try.prog 9 #[encE A n c p1, encE B m d p2] w fun e w' => e = .returned (.bool (sameEv V1 p1 V2 p2)) ∧ Below w.heap.size w w' := by
  subst hn
  subst hm
  refine board_Same.calls (V1.length + 1) A c V1 p1 B d V2 p2 _ w hr hc hr2 hd ?_
  unfold board_Same.f sameEv
  by_cases h : p1.toList = p2.toList
  · rw [if_pos h, same_f V1 V2 hl, h]
    simp
  · rw [if_neg h]
    have : (p1.toList == p2.toList) = false := by simpa using h
    rw [this]
    rfl
end Go.Proofs.Ytlokmijoaocofaa.Mine
end
section
/-
  What a filter that is the schema's is like (plain law): at most four predicates, names of the schema, numbers between the schema's, texts of at most 40 printable bytes. No condition.
-/
namespace Go.Proofs.Ytlokmijoaocofaa.Mine
open Go.RowKit Go.Proofs.YtlokmijoaocofaaW.PrintWords Go.Proofs.YtlokmijoaocofaaW.PrintLast Go.Proofs.YtlokmijoaocofaaW.PrintMore
open Go.Proofs.Ytlokmijoaocofaa.PBoardAgain
theorem btl_loop (s : ByteArray) : ∀ (k i : Nat) (r : List UInt8), s.size - i = k → i ≤ s.size → ByteArray.toList.loop s i r = r.reverse ++ s.data.toList.drop i := by
  intro k
  induction k with
  | zero =>
    intro i r h hi
    rw [ByteArray.toList.loop.eq_1, if_neg (by omega)]
    have : s.data.toList.drop i = [] := List.drop_eq_nil_iff.2 (by rw [Array.length_toList]; show s.size ≤ i; omega)
    rw [this, List.append_nil]
  | succ k ih =>
    intro i r h hi
    rw [ByteArray.toList.loop.eq_1, if_pos (by omega), ih (i + 1) _ (by omega) (by omega)]
    have hlt : i < s.data.toList.length := by rw [Array.length_toList]; show i < s.size; omega
    rw [List.drop_eq_getElem_cons hlt, List.reverse_cons, List.append_assoc]
    congr 1
    show [s.get! i] ++ _ = _
    have : s.get! i = s.data.toList[i] := by
      have h2 : i < s.data.size := by rw [Array.length_toList] at hlt; exact hlt
      show s.data[i]! = _
      rw [getElem!_pos s.data i h2, Array.getElem_toList]
    rw [this]
    rfl
theorem btl (s : ByteArray) : s.toList = s.data.toList := by
  have := btl_loop s s.size 0 [] (by omega) (Nat.zero_le _)
  simpa [ByteArray.toList] using this
theorem bt_size (s : ByteArray) : s.toList.length = s.size := by rw [btl, Array.length_toList]; rfl
theorem badFrom_none {S : List S65} {F : List S119} : ∀ (k i : Nat), badFrom S F k i = none → ∀ j, i ≤ j → j < i + k → okAt S F j = true
  | 0, i, _, j, h1, h2 => by omega
  | k + 1, i, h, j, h1, h2 => by
    unfold badFrom at h
    split at h
    · by_cases hj : j = i
      · rw [hj]; assumption
      · exact badFrom_none k (i + 1) h j (by omega) (by omega)
    · cases h
theorem idxFrom_at {α : Type} (p : α → Bool) (z : α) : ∀ (l : List α) (i : Nat), 0 ≤ idxFrom p l i → ∃ k, idxFrom p l i = ((i + k : Nat) : Int) ∧ k < l.length ∧ p (l.getD k z) = true
  | [], i, h => by simp only [idxFrom] at h; omega
  | x :: r, i, h => by
    unfold idxFrom at h ⊢
    split
    · exact ⟨0, rfl, by simp, by simpa using ‹_›⟩
    · rename_i hx
      rw [if_neg hx] at h
      obtain ⟨k, e, hk, hp⟩ := idxFrom_at p z r (i + 1) h
      exact ⟨k + 1, by rw [e]; congr 1; omega, by simpa using hk, by simpa using hp⟩
theorem findB_at {nm : ByteArray} {S : List S65} (h : 0 ≤ findB nm S) : S.getD (findB nm S).toNat z65 ∈ S ∧ (S.getD (findB nm S).toNat z65).f0.toList = nm.toList := by
  obtain ⟨k, e, hk, hp⟩ := idxFrom_at (fun x : S65 => x.f0.toList == nm.toList) z65 S 0 h
  have e2 : (findB nm S).toNat = k := by
    show (idxFrom _ S 0).toNat = k
    rw [e]
    omega
  rw [e2]
  refine ⟨?_, by simpa using hp⟩
  rw [List.getD_eq_getElem?_getD, List.getElem?_eq_getElem hk]
  exact List.getElem_mem hk
theorem filterBad_none {S : List S65} {F : List S119} (h : filterBad S F = none) : 1 ≤ F.length ∧ F.length ≤ 4 ∧ ∀ p ∈ F, ∃ a ∈ S, a.f0.toList = p.f0.toList ∧ predOk a p = true := by
  unfold filterBad at h
  split at h
  · cases h
  · rename_i hl
    refine ⟨by omega, by omega, fun p hp => ?_⟩
    obtain ⟨i, hi, rfl⟩ := List.getElem_of_mem hp
    have := badFrom_none F.length 0 h i (Nat.zero_le _) (by omega)
    have e : F.getD i z119 = F[i] := by rw [List.getD_eq_getElem?_getD, List.getElem?_eq_getElem hi]; rfl
    unfold okAt at this
    rw [e] at this
    simp only [Bool.and_eq_true, decide_eq_true_eq] at this
    obtain ⟨⟨h0, _⟩, h2⟩ := this
    obtain ⟨m1, m2⟩ := findB_at h0
    exact ⟨_, m1, m2, h2⟩
/-- A predicate's parts. -/
theorem predOk_parts {a : S65} {p : S119} (h : predOk a p = true) : (p.f1 = 1 ∧ a.f1 = 1 ∧ a.f2 ≤ p.f2 ∧ p.f3 ≤ a.f3 ∧ p.f2 ≤ p.f3 ∧ p.f4.data.toList = []) ∨ ((p.f1 = 2 ∨ p.f1 = 3) ∧ p.f2 = 0 ∧ p.f3 = 0 ∧ p.f4.size ≤ 40 ∧ p.f4.data.toList.all isChar = true) := by
  unfold predOk at h
  split at h
  · rename_i h1
    simp only [Bool.and_eq_true, decide_eq_true_eq, beq_iff_eq] at h
    exact Or.inl ⟨h1, h.1.1.1.1, h.1.1.1.2, h.1.1.2, h.1.2, by rw [← btl]; exact h.2⟩
  · split at h
    · rename_i h1
      simp only [Bool.and_eq_true, decide_eq_true_eq, beq_iff_eq, strOk] at h
      exact Or.inr ⟨by rcases h1 with h1 | h1; exact Or.inl h1; exact Or.inr h1.1, h.1.1.2, h.1.2, h.2.1, h.2.2⟩
    · cases h
theorem okF_nums {S : List S65} {F : List S119} (h : filterBad S F = none) (l u : Int) (hl : l ≤ 0) (hu : 0 ≤ u) (hS : ∀ a ∈ S, l ≤ a.f2 ∧ a.f3 ≤ u) : ∀ p ∈ F, l ≤ p.f2 ∧ p.f2 ≤ u ∧ l ≤ p.f3 ∧ p.f3 ≤ u := by
  intro p hp
  obtain ⟨a, ha, _, ho⟩ := (filterBad_none h).2.2 p hp
  have := hS a ha
  rcases predOk_parts ho with ⟨_, _, h1, h2, h3, _⟩ | ⟨_, h1, h2, _⟩
  · exact ⟨by omega, by omega, by omega, by omega⟩
  · exact ⟨by omega, by omega, by omega, by omega⟩
theorem okF_strs {S : List S65} {F : List S119} (h : filterBad S F = none) (m : Nat) (hS : ∀ a ∈ S, a.f0.size ≤ m) : ∀ p ∈ F, p.f0.size ≤ m ∧ p.f4.size ≤ 40 := by
  intro p hp
  obtain ⟨a, ha, hn, ho⟩ := (filterBad_none h).2.2 p hp
  have h1 := hS a ha
  have h2 : p.f0.size = a.f0.size := by rw [← bt_size, ← bt_size, hn]
  refine ⟨by omega, ?_⟩
  rcases predOk_parts ho with ⟨_, _, _, _, _, h3⟩ | ⟨_, _, _, h3, _⟩
  · have : p.f4.size = p.f4.data.toList.length := by rw [Array.length_toList]; rfl
    rw [this, h3]
    exact Nat.zero_le _
  · exact h3
end Go.Proofs.Ytlokmijoaocofaa.Mine
end
section
/-
  filter.Read, walked. Conditions: the text at most 1000 bytes, the schema at most 100000 attributes.
-/
namespace Go.Proofs.Ytlokmijoaocofaa.Mine
open Go.RowKit Go.Proofs.YtlokmijoaocofaaW.PrintWords Go.Proofs.YtlokmijoaocofaaW.PrintLast Go.Proofs.YtlokmijoaocofaaW.PrintMore
open Go.Proofs.Ytlokmijoaocofaa.PBoardAgain
/-- The filter of a text by a schema; or the code. -/
def readR (S : List S65) (s : ByteArray) : List Pr ⊕ Int :=
  match parseR s with
  | .inr z => .inr z.2
  | .inl xs => match filterBad S (xs.map toP) with
    | none => .inl xs
    | some _ => .inr 3
def ReadOk (w : World) (xs : List Pr) (e : Ending) (w' : World) : Prop := ∃ v, e = .returned (.tuple #[v, .nilIface]) ∧ Kd.R k119 119 w' w.heap.size (fun _ => True) v (xs.map toP) ∧ Below w.heap.size w w'
def ReadNo (w : World) (c : Int) (e : Ending) (w' : World) : Prop := ∃ b n, e = .returned (.tuple #[.slice none 0 0, .iface 103 (.pointer (some ⟨b, 0, none⟩))]) ∧ ErrIs w' c n (.iface 103 (.pointer (some ⟨b, 0, none⟩))) ∧ Below w.heap.size w w'
def ReadPost (w : World) (S : List S65) (s : ByteArray) (e : Ending) (w' : World) : Prop :=
  match readR S s with
  | .inl xs => ReadOk w xs e w'
  | .inr c => ReadNo w c e w'
theorem ReadPost.ok {w w' : World} {S : List S65} {s : ByteArray} {xs : List Pr} {e : Ending} (h : ReadPost w S s e w') (hr : readR S s = .inl xs) : ReadOk w xs e w' := by
  unfold ReadPost at h
  rw [hr] at h
  exact h
theorem ReadPost.no {w w' : World} {S : List S65} {s : ByteArray} {c : Int} {e : Ending} (h : ReadPost w S s e w') (hr : readR S s = .inr c) : ReadNo w c e w' := by
  unfold ReadPost at h
  rw [hr] at h
  exact h
theorem ReadPost.mk_ok {w w' : World} {S : List S65} {s : ByteArray} {xs : List Pr} {e : Ending} (hr : readR S s = .inl xs) (h : ReadOk w xs e w') : ReadPost w S s e w' := by
  unfold ReadPost
  rw [hr]
  exact h
theorem ReadPost.mk_no {w w' : World} {S : List S65} {s : ByteArray} {c : Int} {e : Ending} (hr : readR S s = .inr c) (h : ReadNo w c e w') : ReadPost w S s e w' := by
  unfold ReadPost
  rw [hr]
  exact h
theorem parseR_not3 {s : ByteArray} {z : Int × Int} (h : parseR s = .inr z) : (z.2 == 3) = false := by
  unfold parseR at h
  split at h
  · injection h with h
    subst h
    rfl
  · split at h
    · cases h
    · injection h with h
      subst h
      rfl
theorem FilterPost.bad {w w' : World} {S : List S65} {F : List S119} {e : Ending} {i : Nat} (h : FilterPost w S F e w') (hb : filterBad S F = some i) : ∃ b, w.heap.size ≤ b ∧ e = .returned (.iface 103 (.pointer (some ⟨b, 0, none⟩))) ∧ IsFault w' b ⟨#[118, 97, 108, 117, 101]⟩ (i : Int) 3 ∧ Below w.heap.size w w' := by
  unfold FilterPost at h
  rw [hb] at h
  exact h
theorem FilterPost.ok {w w' : World} {S : List S65} {F : List S119} {e : Ending} (h : FilterPost w S F e w') (hb : filterBad S F = none) : e = .returned .nilIface ∧ Below w.heap.size w w' := by
  unfold FilterPost at h
  rw [hb] at h
  exact h
set_option maxHeartbeats 4000000 in
set_option maxRecDepth 100000 in
theorem read_calls (A : Option Addr) (n c : Nat) (S : List S65) (s : ByteArray) (w : World) (hn : S.length = n) (hr : Kd.C k65 w A n S) (hl : n ≤ 100000) (hs : s.size ≤ 1000) :
    Calls Try.prog 23 #[.slice A n c, .string s] w (ReadPost w S s) := by
  have HRS := Aside0.mk hr
  have HN := Aside0.mk hn
  clear hr hn
  have HOK := Aside0.mk (fun xs e w' h ho => ReadPost.mk_ok (w := w) (w' := w') (S := S) (s := s) (xs := xs) (e := e) h ho)
  have HNO := Aside0.mk (fun c e w' h ho => ReadPost.mk_no (w := w) (w' := w') (S := S) (s := s) (c := c) (e := e) h ho)
  generalize ReadPost w S s = POST at HOK HNO ⊢
  go_enter Try.func23, Try.ntmps23
  go_wp2_with fail
  refine (parse_P s _ hs).mono ?_
  rintro e w1 hp
  cases hpr : parseR s with
  | inr z =>
    have h3 := parseR_not3 hpr
    obtain ⟨at_, cd⟩ := z
    simp only at h3
    obtain ⟨b, hbl, rfl, hf, hb1⟩ := hp.no hpr
    have HR := Aside0.mk (show readR S s = .inr cd by unfold readR; rw [hpr])
    have HF := Aside0.mk hf
    have HB := Aside0.mk hb1
    clear hp hpr hf hb1 hbl
    go_wp2_with fail
    refine (is_err cd 3 1 _ _ (IsFault.errIs HF.out)).mono ?_
    rintro e w2 ⟨rfl, rfl⟩
    rw [h3]
    have hfin := HNO.out cd _ _ HR.out ⟨b, 1, rfl, IsFault.errIs HF.out, HB.out⟩
    go_wp2
    first
      | exact hfin
      | (go_ret2
         exact hfin)
  | inl xs =>
    obtain ⟨v1, rfl, ho, hb1⟩ := hp.ok hpr
    obtain ⟨A1, c1, rfl, hc1, hC1⟩ := Kd.R_reads ho
    have lx : (xs.map toP).length ≤ 301 := by simpa using parse_count hpr
    have HB := Aside0.mk hb1
    have HO := Aside0.mk ho
    have HC1 := Aside0.mk hC1
    have HPR := Aside0.mk hpr
    clear hp hpr ho hb1 hC1
    obtain ⟨n1, hn⟩ : ∃ n, (xs.map toP).length = n := ⟨_, rfl⟩
    have HN1 := Aside0.mk hn
    rw [hn] at HC1 HO hc1 lx ⊢
    clear hn
    go_wp2_with fail
    refine (filter_calls A A1 n n1 c c1 S (xs.map toP) _ HN.out HN1.out (Kd.C_below HRS.out HB.out) HC1.out hl (by omega) hc1).mono ?_
    rintro e w2 hq
    cases hfb : filterBad S (xs.map toP) with
    | some i =>
      obtain ⟨b, hbl, rfl, hf, hb2⟩ := hq.bad hfb
      have HR := Aside0.mk (show readR S s = .inr 3 by unfold readR; rw [HPR.out]; simp only [hfb])
      have HF := Aside0.mk hf
      have n_ := Aside0.mk (below_then HB.out HB.out.size hb2)
      clear HB hq hfb hf hb2 hbl HO HC1
      have HB := n_
      clear n_
      go_wp2_with fail
      refine (is_err 3 3 1 _ _ (IsFault.errIs HF.out)).mono ?_
      rintro e w3 ⟨rfl, rfl⟩
      have hnew := heap_alloc_new w2 (.cells #[.string sFilter, .int .i64 0, .iface 103 (.pointer (some ⟨b, 0, none⟩))] 105 (0, 0))
      have hfin := HNO.out 3 _ _ HR.out ⟨w2.heap.size, 2, rfl, ⟨w2.heap.size, sFilter, 0, _, rfl, hnew, IsFault.errIs (IsFault.keep HF.out (below_alloc (Below.refl _ _) _))⟩, below_alloc HB.out _⟩
      clear hnew
      go_wp2
      first
        | exact hfin
        | (go_ret2
           exact hfin)
    | none =>
      obtain ⟨rfl, hb2⟩ := hq.ok hfb
      have HR := Aside0.mk (show readR S s = .inl xs by unfold readR; rw [HPR.out]; simp only [hfb])
      have o_ := Aside0.mk (Kd.R_below HO.out hb2)
      have n_ := Aside0.mk (below_then HB.out HB.out.size hb2)
      clear HB hq hfb hb2 HO HC1
      have HB := n_
      have HO := o_
      clear n_ o_
      go_wp2_with fail
      refine (is_nil 3 _).mono ?_
      rintro e w3 ⟨rfl, rfl⟩
      have hfin := HOK.out xs _ _ HR.out ⟨_, rfl, HO.out, HB.out⟩
      go_wp2
      first
        | exact hfin
        | (go_ret2
           exact hfin)
end Go.Proofs.Ytlokmijoaocofaa.Mine
end
section
/-
  value.Schema.Match walked: does a filter take an event? Conditions: the slices at most 100000 long.
-/
namespace Go.Proofs.Ytlokmijoaocofaa.Mine
open Go.RowKit Go.Proofs.YtlokmijoaocofaaW.PrintWords Go.Proofs.YtlokmijoaocofaaW.PrintLast Go.Proofs.YtlokmijoaocofaaW.PrintMore
open Go.Proofs.Ytlokmijoaocofaa.PBoardAgain
def preB (s p : ByteArray) : Bool := decide (p.size ≤ s.size) && ((s.extract 0 p.size).toList == p.toList)
theorem lite_calls (s p : ByteArray) (w : World) : Calls Try.prog 77 #[.string s, .string p] w fun e w' => e = .returned (.bool (preB s p)) ∧ w = w' := by
  by_cases h : p.size ≤ s.size
  · have b1 : decide ((p.size : Int) ≤ (s.size : Int)) = true := decide_eq_true (by omega)
    have b2 : decide (p.size ≤ s.size) = true := decide_eq_true h
    have p1 : (p.size : Int) ≤ (s.size : Int) := by omega
    have HV := Aside0.mk (show preB s p = ((s.extract 0 p.size).toList == p.toList) by unfold preB; rw [b2]; rfl)
    generalize preB s p = z at HV ⊢
    clear h
    go_enter Try.func77, Try.ntmps77
    go_wp2
    go_ret
    exact ⟨by rw [HV.out]; rfl, rfl⟩
  · have b1 : decide ((p.size : Int) ≤ (s.size : Int)) = false := decide_eq_false (by omega)
    have b2 : decide (p.size ≤ s.size) = false := decide_eq_false h
    have HV := Aside0.mk (show preB s p = false by unfold preB; rw [b2]; rfl)
    generalize preB s p = z at HV ⊢
    clear h
    go_enter Try.func77, Try.ntmps77
    go_wp2
    go_ret
    exact ⟨by rw [HV.out]; rfl, rfl⟩
theorem prefix_calls (s p : ByteArray) (w : World) : Calls Try.prog 58 #[.string s, .string p] w fun e w' => e = .returned (.bool (preB s p)) ∧ w = w' := by
  have HC := Aside0.mk (fun W => lite_calls s p W)
  generalize preB s p = z at HC ⊢
  go_enter Try.func58, Try.ntmps58
  go_wp2_with fail
  refine (HC.out _).mono ?_
  rintro e w1 ⟨rfl, rfl⟩
  go_wp2
  go_ret
  exact ⟨rfl, rfl⟩
def takesB (p : SP) (v : SV) : Bool :=
  if p.f1 = 1 then decide (p.f2 ≤ v.f0) && decide (v.f0 ≤ p.f3)
  else if p.f1 = 2 then v.f1.toList == p.f4.toList
  else preB v.f1 p.f4
theorem takes_calls (p : SP) (v : SV) (w : World) : Calls Try.prog 43 #[enc46 p, encV v] w fun e w' => e = .returned (.bool (takesB p v)) ∧ Below w.heap.size w w' := by
  unfold enc46 encV
  by_cases t1 : p.f1 = 1
  · have o1 : (p.f1 == 1) = true := by simpa using t1
    have HV := Aside0.mk (show takesB p v = (decide (p.f2 ≤ v.f0) && decide (v.f0 ≤ p.f3)) by unfold takesB; rw [if_pos t1])
    generalize takesB p v = z at HV ⊢
    clear t1
    by_cases t2 : p.f2 ≤ v.f0
    · have e2 := decide_eq_true t2
      have HZ := Aside0.mk (show z = decide (v.f0 ≤ p.f3) by rw [HV.out, e2]; rfl)
      clear t2
      cases e3 : decide (v.f0 ≤ p.f3) with
      | true =>
        rw [e3] at HZ
        go_enter Try.func43, Try.ntmps43
        go_wp2
        go_ret
        exact ⟨by rw [HZ.out]; first | rfl | simp, below_alloc (below_alloc (Below.refl _ _) _) _⟩
      | false =>
        rw [e3] at HZ
        go_enter Try.func43, Try.ntmps43
        go_wp2
        go_ret
        exact ⟨by rw [HZ.out]; first | rfl | simp, below_alloc (below_alloc (Below.refl _ _) _) _⟩
    · have e2 := decide_eq_false t2
      have HZ := Aside0.mk (show z = false by rw [HV.out, e2]; rfl)
      clear t2
      go_enter Try.func43, Try.ntmps43
      go_wp2
      go_ret
      exact ⟨by rw [HZ.out]; first | rfl | simp, below_alloc (below_alloc (Below.refl _ _) _) _⟩
  · have o1 : (p.f1 == 1) = false := by simpa using t1
    by_cases t2 : p.f1 = 2
    · have o2 : (p.f1 == 2) = true := by simpa using t2
      have HZ := Aside0.mk (show takesB p v = (v.f1.toList == p.f4.toList) by unfold takesB; rw [if_neg t1, if_pos t2])
      generalize takesB p v = z at HZ ⊢
      clear t1 t2
      cases e1 : (v.f1.toList == p.f4.toList) with
      | true =>
        rw [e1] at HZ
        go_enter Try.func43, Try.ntmps43
        go_wp2
        go_ret
        exact ⟨by rw [HZ.out]; first | rfl | simp, below_alloc (below_alloc (Below.refl _ _) _) _⟩
      | false =>
        rw [e1] at HZ
        go_enter Try.func43, Try.ntmps43
        go_wp2
        go_ret
        exact ⟨by rw [HZ.out]; first | rfl | simp, below_alloc (below_alloc (Below.refl _ _) _) _⟩
    · have o2 : (p.f1 == 2) = false := by simpa using t2
      have HZ := Aside0.mk (show takesB p v = preB v.f1 p.f4 by unfold takesB; rw [if_neg t1, if_neg t2])
      have HC := Aside0.mk (fun W => prefix_calls v.f1 p.f4 W)
      generalize takesB p v = z at HZ ⊢
      generalize preB v.f1 p.f4 = z2 at HZ HC
      clear t1 t2
      go_enter Try.func43, Try.ntmps43
      go_wp2_with fail
      refine (HC.out _).mono ?_
      rintro e w1 ⟨rfl, rfl⟩
      go_wp2
      go_ret
      exact ⟨by rw [HZ.out]; rfl, below_alloc (below_alloc (Below.refl _ _) _) _⟩
theorem filterBad_find {S : List SA} {F : List SP} (h : filterBad S F = none) : ∀ p ∈ F, 0 ≤ findB p.f0 S := by
  unfold filterBad at h
  split at h
  · cases h
  · intro p hp
    obtain ⟨i, hi, rfl⟩ := List.getElem_of_mem hp
    have := badFrom_none F.length 0 h i (Nat.zero_le _) (by omega)
    have e : F.getD i z119 = F[i] := by rw [List.getD_eq_getElem?_getD, List.getElem?_eq_getElem hi]; rfl
    unfold okAt at this
    rw [e] at this
    simp only [Bool.and_eq_true, decide_eq_true_eq] at this
    exact this.1.1
set_option maxHeartbeats 4000000 in
set_option maxRecDepth 100000 in
theorem match_clo (A B : Option Addr) (n m c d ge gs : Nat) (S : List SA) (V : List SV) (F : List SP) (pay : ByteArray) (w : World) (hn : S.length = n) (hm : V.length = n) (hmm : m = n) (hl : n ≤ 100000) (hr : Kd.C k65 w A n S) (hr2 : Kd.C k63 w B n V)
    (hge : w.heap[ge]? = some (.cells #[.slice B m d, .string pay] 24 (0, 0))) (hgs : w.heap[gs]? = some (.cells #[.slice A n c] 33 (0, 0))) (hf : ∀ p ∈ F, 0 ≤ findB p.f0 S) :
    CloOn 42 #[.pointer (some ⟨ge, 0, none⟩), .pointer (some ⟨gs, 0, none⟩)] enc46 (fun p => !takesB p (V.getD (findB p.f0 S).toNat z63)) w F := fun W p hp hb => by
  subst hmm
  have HS := Aside0.mk (Kd.C_below hr hb)
  have HV := Aside0.mk (Kd.C_below hr2 hb)
  have HGE := Aside0.mk ((hb.block _ (blk_lt hge)).trans hge)
  have HGS := Aside0.mk ((hb.block _ (blk_lt hgs)).trans hgs)
  obtain ⟨k, hk⟩ := Int.eq_ofNat_of_zero_le (hf p hp)
  have hkn : k < m := by have := findB_lt p.f0 S; omega
  have HN := Aside0.mk hn
  have HK := Aside0.mk hk
  clear hr hr2 hge hgs hf hp hb hm hn hk
  show Calls _ _ (#[enc46 p] ++ _) W fun e w' => e = .returned (.bool (!takesB p (V.getD (findB p.f0 S).toNat z63))) ∧ Below W.heap.size W w'
  rw [HK.out, Int.toNat_natCast]
  obtain ⟨v, hv⟩ : ∃ v, v = V.getD k z63 := ⟨_, rfl⟩
  rw [← hv]
  have HVV := Aside0.mk hv
  clear hv
  have HTC := Aside0.mk (fun W => takes_calls p v W)
  generalize takesB p v = z at HTC ⊢
  show Calls _ _ #[enc46 p, .pointer (some ⟨ge, 0, none⟩), .pointer (some ⟨gs, 0, none⟩)] W _
  unfold enc46 encV at HTC
  unfold enc46
  go_enter Try.func42, Try.ntmps42
  go_wp2_with fail
  generalize hW : W.alloc (Obj.cells #[.string p.f0, .int .i64 p.f1, .int .i64 p.f2, .int .i64 p.f3, .string p.f4] 119) = W2
  have hb2 : Below W.heap.size W W2 := by rw [← hW]; exact below_alloc (Below.refl _ _) _
  have HKP : W2.heap[W.heap.size]? = some (.cells #[.string p.f0, .int .i64 p.f1, .int .i64 p.f2, .int .i64 p.f3, .string p.f4] 119 (0, 0)) := by rw [← hW]; exact blk_new W _
  have HGE2 := (hb2.block _ (blk_lt HGE.out)).trans HGE.out
  have HGS2 := (hb2.block _ (blk_lt HGS.out)).trans HGS.out
  have HS2 := Aside0.mk (Kd.C_below HS.out hb2)
  have HB := Aside0.mk hb2
  obtain ⟨ad2, e, k0, k1⟩ := at_T63 (Kd.C_below HV.out hb2) (k : Int) (by omega) (by omega)
  rw [Int.toNat_natCast] at k0 k1
  have hrd : rd_T63 V (k : Int) = V.getD k z63 := rfl
  rw [hrd, ← HVV.out] at k0 k1
  cases e
  clear hW HGE HGS HS HV hb2 hrd
  generalize W.heap.size = gp at HKP ⊢
  have q0 : ∀ q : BelowP W2, q.w.cell? ⟨gp, 0, none⟩ = some (.string p.f0) := fun q => q.cell ((blk_cell HKP 0).trans rfl)
  have q1 : ∀ q : BelowP W2, q.w.cell? ⟨gp, 1, none⟩ = some (.int .i64 p.f1) := fun q => q.cell ((blk_cell HKP 1).trans rfl)
  have q2 : ∀ q : BelowP W2, q.w.cell? ⟨gp, 2, none⟩ = some (.int .i64 p.f2) := fun q => q.cell ((blk_cell HKP 2).trans rfl)
  have q3 : ∀ q : BelowP W2, q.w.cell? ⟨gp, 3, none⟩ = some (.int .i64 p.f3) := fun q => q.cell ((blk_cell HKP 3).trans rfl)
  have q4 : ∀ q : BelowP W2, q.w.cell? ⟨gp, 4, none⟩ = some (.string p.f4) := fun q => q.cell ((blk_cell HKP 4).trans rfl)
  have q5 : ∀ q : BelowP W2, q.w.cell? ⟨ge, 0, none⟩ = some (.slice (some ad2) m d) := fun q => q.cell ((blk_cell HGE2 0).trans rfl)
  have q6 : ∀ q : BelowP W2, q.w.cell? ⟨gs, 0, none⟩ = some (.slice A m c) := fun q => q.cell ((blk_cell HGS2 0).trans rfl)
  have r0 : ∀ q : BelowP W2, q.w.cell? _ = _ := fun q => q.cell k0
  have r1 : ∀ q : BelowP W2, q.w.cell? _ = _ := fun q => q.cell k1
  have HFC := Aside0.mk (fun q : BelowP W2 => find_calls A m c S p.f0 q.w HN.out (Kd.C_below HS2.out q.h) hl)
  rw [HK.out] at HFC
  have p1 : (0 : Int) ≤ (k : Int) := by omega
  have p2 : (k : Int) < (m : Int) := by omega
  clear HKP HGE2 HGS2 HS2 k0 k1 HK HVV
  refine wp_region_quiet_below (by kernel_rfl) (by kernel_rfl) ?_
  repeat (quiet_step (first | (go_at_call 44; (with_reducible refine Calls.below_of (HFC.out _))) | (go_at_call 43; (with_reducible refine Calls.below_of (HTC.out _)))))
  refine wpQuiet_nil ?_
  rintro _ ⟨pq, rfl⟩
  go_wp2
  go_ret
  exact ⟨rfl, below_then HB.out HB.out.size pq.h⟩
def matchB (S : List SA) (F : List SP) (V : List SV) (pay : ByteArray) : Bool :=
  (filterBad S F).isNone && ((evBad S V pay).isNone && F.all fun p => takesB p (V.getD (findB p.f0 S).toNat z63))
theorem evBad_len {S : List SA} {V : List SV} {pay : ByteArray} (h : evBad S V pay = none) : V.length = S.length := by
  unfold evBad at h
  split at h
  · cases h
  · omega
theorem all_any {α : Type} (p : α → Bool) (l : List α) : l.all p = !(l.any fun x => !p x) := by
  induction l with
  | nil => rfl
  | cons x r ih => rw [List.all_cons, List.any_cons, ih]; cases p x <;> simp
set_option maxHeartbeats 4000000 in
set_option maxRecDepth 100000 in
theorem match_calls (A B E : Option Addr) (n m c d k e0 : Nat) (S : List SA) (F : List SP) (V : List SV) (pay : ByteArray) (w : World) (hn : S.length = n) (hm : F.length = m) (hk : V.length = k) (hr : Kd.C k65 w A n S) (hr2 : Kd.C k119 w B m F) (hr3 : Kd.C k63 w E k V) (hl : n ≤ 100000) (hl2 : m ≤ 100000) (hcd : m ≤ d) :
    Calls Try.prog 29 #[.slice A n c, .slice B m d, encE E k e0 pay] w fun e w' => e = .returned (.bool (matchB S F V pay)) ∧ Below w.heap.size w w' := by
  have HS := Aside0.mk hr
  have HF := Aside0.mk hr2
  have HV := Aside0.mk hr3
  have HN := Aside0.mk hn
  have HM := Aside0.mk hm
  have HK := Aside0.mk hk
  have HZ := Aside0.mk (show matchB S F V pay = ((filterBad S F).isNone && ((evBad S V pay).isNone && F.all fun p => takesB p (V.getD (findB p.f0 S).toNat z63))) from rfl)
  generalize matchB S F V pay = z at HZ ⊢
  clear hr hr2 hr3 hn hm hk
  have HEV := Aside0.mk (fun W (h1 : Kd.C k65 W A n S) (h2 : Kd.C k63 W E k V) => event_calls A E n k c e0 S V pay W HN.out HK.out h1 h2 hl)
  unfold encE at HEV ⊢
  go_enter Try.func29, Try.ntmps29
  go_wp2_with fail
  have hb0 := below_alloc (below_alloc (Below.refl w.heap.size w) (.cells #[.slice A n c] 33)) (.cells #[.slice E k e0, .string pay] 24)
  have hs1 : (w.alloc (.cells #[.slice A n c] 33)).heap.size = w.heap.size + 1 := by show (w.heap.push _).size = _; exact Array.size_push _
  have hgs := (Below.heap_alloc (w.alloc (.cells #[.slice A n c] 33)) (.cells #[.slice E k e0, .string pay] 24) w.heap.size (by rw [hs1]; omega)).trans (heap_alloc_new w _)
  have hge := heap_alloc_new (w.alloc (.cells #[.slice A n c] 33)) (.cells #[.slice E k e0, .string pay] 24)
  rw [hs1] at hge
  have HB := Aside0.mk hb0
  have KS := Aside0.mk hgs
  have KE := Aside0.mk hge
  clear hs1 hgs hge hb0
  generalize (w.alloc (.cells #[.slice A n c] 33)).alloc (.cells #[.slice E k e0, .string pay] 24) = w0 at HB KS KE ⊢
  obtain ⟨gs, hgs⟩ : ∃ g, g = w.heap.size := ⟨_, rfl⟩
  obtain ⟨ge, hge⟩ : ∃ g, g = w.heap.size + 1 := ⟨_, rfl⟩
  rw [← hgs] at KS
  rw [← hge] at KE
  rw [← hge, ← hgs]
  clear hgs hge
  refine (filter_calls A B n m c d S F _ HN.out HM.out (Kd.C_below HS.out HB.out) (Kd.C_below HF.out HB.out) hl hl2 hcd).mono ?_
  rintro e w1 hq
  cases hfb : filterBad S F with
  | some i =>
    obtain ⟨b, hbl, rfl, hf, hb⟩ := hq.bad hfb
    have HZ2 := Aside0.mk (show z = false by rw [HZ.out, hfb]; rfl)
    have n_ := Aside0.mk (below_then HB.out HB.out.size hb)
    clear HB hb hq hfb hf hbl
    have HB := n_
    clear n_
    go_wp2
    go_ret
    exact ⟨by rw [HZ2.out]; rfl, HB.out⟩
  | none =>
    obtain ⟨rfl, hb⟩ := hq.ok hfb
    have HFB := Aside0.mk hfb
    have n_ := Aside0.mk (below_then HB.out HB.out.size hb)
    have k1_ := Aside0.mk ((hb.block _ (blk_lt KS.out)).trans KS.out)
    have k2_ := Aside0.mk ((hb.block _ (blk_lt KE.out)).trans KE.out)
    clear HB hb hq hfb KS KE
    have HB := n_
    have KS := k1_
    have KE := k2_
    clear n_ k1_ k2_
    have y0 := (blk_cell KS.out 0).trans (show _ = some (Value.slice A n c) from rfl)
    have y1 := (blk_cell KE.out 0).trans (show _ = some (Value.slice E k e0) from rfl)
    have y2 := (blk_cell KE.out 1).trans (show _ = some (Value.string pay) from rfl)
    go_wp2_with fail
    refine (HEV.out _ (Kd.C_below HS.out HB.out) (Kd.C_below HV.out HB.out)).mono ?_
    rintro e w2 hq
    cases heb : evBad S V pay with
    | some i =>
      obtain ⟨b, hbl, rfl, hf, hb⟩ := hq.bad heb
      have HZ2 := Aside0.mk (show z = false by rw [HZ.out, HFB.out, heb]; rfl)
      have n_ := Aside0.mk (below_then HB.out HB.out.size hb)
      clear HB hb hq heb hf hbl y0 y1 y2
      have HB := n_
      clear n_
      go_wp2
      go_ret
      exact ⟨by rw [HZ2.out]; rfl, HB.out⟩
    | none =>
      obtain ⟨rfl, hb⟩ := hq.ok heb
      have hlen := evBad_len heb
      have hkn : k = n := by have := HK.out; have := HN.out; omega
      have HZ2 := Aside0.mk (show z = !(F.any fun p => !takesB p (V.getD (findB p.f0 S).toNat z63)) by rw [HZ.out, HFB.out, heb, all_any]; rfl)
      have n_ := Aside0.mk (below_then HB.out HB.out.size hb)
      have k1_ := Aside0.mk ((hb.block _ (blk_lt KS.out)).trans KS.out)
      have k2_ := Aside0.mk ((hb.block _ (blk_lt KE.out)).trans KE.out)
      clear HB hb hq heb KS KE y0 y1 y2
      have HB := n_
      have KS := k1_
      have KE := k2_
      clear n_ k1_ k2_
      have HVV : Kd.C k63 w E n V := by rw [← hkn]; exact HV.out
      have HC := Aside0.mk (cont46_calls 42 #[.pointer (some ⟨ge, 0, none⟩), .pointer (some ⟨gs, 0, none⟩)] _ B m d F w2 (enters_of Try.func42 (by kernel_rfl) rfl) HM.out (Kd.C_below HF.out HB.out) hl2 (match_clo A E n k c e0 ge gs S V F pay w2 HN.out (by rw [HK.out]; exact hkn) hkn hl (Kd.C_below HS.out HB.out) (Kd.C_below HVV HB.out) KE.out KS.out (filterBad_find HFB.out)))
      generalize (F.any fun p => !takesB p (V.getD (findB p.f0 S).toNat z63)) = b at HC HZ2
      clear HVV hkn hlen
      go_wp2_with fail
      refine HC.out.mono ?_
      rintro e w3 ⟨rfl, hb⟩
      have n_ := Aside0.mk (below_then HB.out HB.out.size hb)
      clear HB hb
      go_wp2
      go_ret
      exact ⟨by rw [HZ2.out]; rfl, n_.out⟩
end Go.Proofs.Ytlokmijoaocofaa.Mine
end
section
/-
  value.Name walked: may a text be an attribute's name? Condition: none.
-/
namespace Go.Proofs.Ytlokmijoaocofaa.Mine
open Go.RowKit Go.Proofs.YtlokmijoaocofaaW.PrintWords Go.Lib
def badN (r : Nat) : Bool := (decide (r < 97) || decide (122 < r)) && (decide (r < 48) || decide (57 < r))
theorem idx_all (bad : Nat → Bool) (ok : UInt8 → Bool) (h1 : ∀ c : UInt8, c.toNat < 128 → bad c.toNat = !(ok c)) (h2 : ∀ r, 128 ≤ r → bad r = true) (h3 : ∀ c : UInt8, 128 ≤ c.toNat → ok c = false) (s : ByteArray) : ∀ (f i : Nat), s.size - i ≤ f → i ≤ s.size → (decide (0 ≤ idxFuncFrom bad true s f i) = !((s.data.toList.drop i).all ok))
  | 0, i, hf, hi => by
    have : i = s.size := by omega
    have hd : s.data.toList.drop i = [] := List.drop_eq_nil_iff.2 (by rw [Array.length_toList]; exact Nat.le_of_eq this.symm)
    rw [hd]
    rfl
  | f + 1, i, hf, hi => by
    by_cases hlt : i < s.size
    · have hd : s.data.toList.drop i = (s[i]'hlt) :: s.data.toList.drop (i + 1) := by
        rw [List.drop_eq_getElem_cons (by rw [Array.length_toList]; exact hlt)]
        rfl
      rw [hd, List.all_cons]
      unfold idxFuncFrom
      rw [if_pos hlt]
      by_cases ha : (s[i]'hlt).toNat < 128
      · rw [decode_ascii s i hlt ha]
        have hc := h1 _ ha
        simp only [hc]
        cases hx : ok (s[i]'hlt) with
        | false => simp
        | true =>
          simp only [Bool.not_true, Bool.true_and]
          rw [if_neg (by simp)]
          exact idx_all bad ok h1 h2 h3 s f (i + 1) (by omega) (by omega)
      · have hd := decode_hi s i hlt (by omega)
        rw [if_pos (h2 _ hd), h3 _ (by omega)]
        simp
    · have : i = s.size := by omega
      have hd : s.data.toList.drop i = [] := List.drop_eq_nil_iff.2 (by rw [Array.length_toList]; exact Nat.le_of_eq this.symm)
      rw [hd, idxFuncFrom_end _ _ _ _ _ hlt]
      rfl
theorem name_pred (w : World) : PredAt Try.prog 49 #[] encR badN w := fun W r _ => by
  unfold FnGives
  by_cases h1 : r < 97 <;> by_cases h2 : 122 < r <;> by_cases h3 : r < 48 <;> by_cases h4 : 57 < r
  all_goals
    have z1 : (r : Int) < 97 ↔ r < 97 := by omega
    have z2 : (122 : Int) < (r : Int) ↔ 122 < r := by omega
    have z3 : (r : Int) < 48 ↔ r < 48 := by omega
    have z4 : (57 : Int) < (r : Int) ↔ 57 < r := by omega
    go_enter Try.func49, Try.ntmps49
    go_wp2
    all_goals first | (exfalso; omega) | (go_ret; exact ⟨by simp [badN, h1, h2, h3, h4], 0, rfl⟩)
def nameOk (s : ByteArray) : Bool := !(s.toList == []) && (decide (s.size ≤ 12) && (isL (s.data.toList.headD 0) && (!(s.toList == [105, 110]) && (!(s.toList == [97, 110, 100]) && s.data.toList.all isA))))
theorem isA_nat (c : UInt8) : isA c = !badN c.toNat := by
  unfold isA isL isD badN
  simp only [UInt8.le_iff_toNat_le]
  have e1 : (97 : UInt8).toNat = 97 := rfl
  have e2 : (122 : UInt8).toNat = 122 := rfl
  have e3 : (48 : UInt8).toNat = 48 := rfl
  have e4 : (57 : UInt8).toNat = 57 := rfl
  rw [e1, e2, e3, e4, Bool.eq_iff_iff]
  simp only [Bool.or_eq_true, Bool.and_eq_true, decide_eq_true_eq, Bool.not_eq_true', Bool.and_eq_false_iff, Bool.or_eq_false_iff, decide_eq_false_iff_not]
  omega
theorem name_calls (s : ByteArray) (w : World) : Calls Try.prog 35 #[.string s] w fun e w' => e = .returned (.bool (nameOk s)) ∧ Below w.heap.size w w' := by
  have hC := fun W => Try.strings_ContainsFunc 49 #[] (enters_of Try.func49 (by kernel_rfl) rfl) badN s W (name_pred W)
  have hX : decide (0 ≤ Lib.idxFunc badN true s) = !(s.data.toList.all isA) := idx_all badN isA (fun c _ => by rw [isA_nat]; simp) (fun r hr => by simp only [badN, Bool.and_eq_true, Bool.or_eq_true, decide_eq_true_eq]; omega) (fun c hc => by rw [isA_nat]; simp only [badN, Bool.not_eq_false', Bool.and_eq_true, Bool.or_eq_true, decide_eq_true_eq]; omega) s s.size 0 (by omega) (by omega)
  have HX := Aside0.mk hX
  have HC := Aside0.mk hC
  clear hX hC
  cases q1 : (s.toList == []) with
  | true =>
    have HV := Aside0.mk (show nameOk s = false by unfold nameOk; rw [q1]; rfl)
    generalize nameOk s = z at HV ⊢
    go_enter Try.func35, Try.ntmps35
    go_wp2
    go_ret
    exact ⟨by rw [HV.out]; rfl, Below.refl _ _⟩
  | false =>
    have hpos : 0 < s.size := by
      rcases Nat.eq_zero_or_pos s.size with h0 | h0
      · have : s.toList = [] := by
          have e : s = ByteArray.empty := by
            cases s with
            | mk d =>
              have h5 : d.size = 0 := h0
              have : d = #[] := Array.eq_empty_of_size_eq_zero h5
              rw [this]
              rfl
          rw [e, btl]
          rfl
        rw [this] at q1
        cases q1
      · exact h0
    by_cases h12 : s.size ≤ 12
    · have q2 : decide ((12 : Int) < (s.size : Int)) = false := decide_eq_false (by omega)
      have q2b : decide (12 < s.size) = false := decide_eq_false (by omega)
      obtain ⟨c, hc⟩ : ∃ c, s[0]'hpos = c := ⟨_, rfl⟩
      have hhd : s.data.toList.headD 0 = c := by
        have h0 : 0 < s.data.toList.length := by rw [Array.length_toList]; exact hpos
        have : s.data.toList = s.data.toList[0] :: s.data.toList.drop 1 := by
          have := List.drop_eq_getElem_cons h0
          rwa [List.drop_zero] at this
        rw [this]
        exact hc
      have hx : ∀ h : 0 < s.size, s[0]'h = c := fun _ => hc
      have p1 : (0 : Int) < (s.size : Int) := by omega
      have HV := Aside0.mk (show nameOk s = (isL c && (!(s.toList == [105, 110]) && (!(s.toList == [97, 110, 100]) && s.data.toList.all isA))) by unfold nameOk; rw [q1, decide_eq_true h12, hhd]; rfl)
      generalize nameOk s = z at HV ⊢
      clear hc hhd
      have hL : isL c = (!decide ((c.toNat : Int) < 97) && !decide (122 < (c.toNat : Int))) := by
        unfold isL
        rw [Bool.eq_iff_iff]
        simp only [decide_eq_true_eq, Bool.and_eq_true, Bool.not_eq_true', decide_eq_false_iff_not, UInt8.le_iff_toNat_le]
        have e1 : (97 : UInt8).toNat = 97 := rfl
        have e2 : (122 : UInt8).toNat = 122 := rfl
        rw [e1, e2]
        omega
      by_cases g0 : (c.toNat : Int) < 97
      · have g1 := decide_eq_true g0
        have HZ := Aside0.mk (show z = false by rw [HV.out, hL, g1]; rfl)
        clear hL g0
        go_enter Try.func35, Try.ntmps35
        go_wp2
        go_ret
        exact ⟨by rw [HZ.out]; rfl, Below.refl _ _⟩
      · have g1 := decide_eq_false g0
        by_cases g2 : 122 < (c.toNat : Int)
        · have g3 := decide_eq_true g2
          have HZ := Aside0.mk (show z = false by rw [HV.out, hL, g1, g3]; rfl)
          clear hL g0 g2
          go_enter Try.func35, Try.ntmps35
          go_wp2
          go_ret
          exact ⟨by rw [HZ.out]; rfl, Below.refl _ _⟩
        · have g3 := decide_eq_false g2
          cases q3 : (s.toList == [105, 110]) with
          | true =>
            have HZ := Aside0.mk (show z = false by rw [HV.out, hL, g1, g3, q3]; rfl)
            clear hL g0 g2
            go_enter Try.func35, Try.ntmps35
            go_wp2
            go_ret
            exact ⟨by rw [HZ.out]; rfl, Below.refl _ _⟩
          | false =>
            cases q4 : (s.toList == [97, 110, 100]) with
            | true =>
              have HZ := Aside0.mk (show z = false by rw [HV.out, hL, g1, g3, q3, q4]; rfl)
              clear hL g0 g2
              go_enter Try.func35, Try.ntmps35
              go_wp2
              go_ret
              exact ⟨by rw [HZ.out]; rfl, Below.refl _ _⟩
            | false =>
              have HZ := Aside0.mk (show z = s.data.toList.all isA by rw [HV.out, hL, g1, g3, q3, q4]; rfl)
              clear hL g0 g2
              go_enter Try.func35, Try.ntmps35
              go_wp2_with fail
              refine (HC.out _).mono ?_
              rintro e w1 ⟨rfl, hb⟩
              rw [HX.out]
              go_wp2
              go_ret
              exact ⟨by rw [HZ.out]; simp, hb⟩
    · have q2 : decide ((12 : Int) < (s.size : Int)) = true := decide_eq_true (by omega)
      have q2b : decide (12 < s.size) = true := decide_eq_true (by omega)
      have HV := Aside0.mk (show nameOk s = false by unfold nameOk; rw [q1, decide_eq_false h12]; rfl)
      generalize nameOk s = z at HV ⊢
      go_enter Try.func35, Try.ntmps35
      go_wp2
      go_ret
      exact ⟨by rw [HV.out]; rfl, Below.refl _ _⟩
theorem nameOk_is {s : ByteArray} (h : nameOk s = true) : isName s.data.toList = true := by
  unfold nameOk at h
  simp only [Bool.and_eq_true, Bool.not_eq_true'] at h
  obtain ⟨h1, _, h2, _, _, h3⟩ := h
  cases hl : s.data.toList with
  | nil => rw [hl] at h2; revert h2; decide
  | cons c r =>
    rw [hl] at h2 h3
    simp only [isName, Bool.and_eq_true]
    simp only [List.all_cons, Bool.and_eq_true] at h3
    exact ⟨h2, h3.2⟩
end Go.Proofs.Ytlokmijoaocofaa.Mine
end
section
/-
  value.Schema.Check, walked. Conditions: the schema at most 100000 long.
-/
namespace Go.Proofs.Ytlokmijoaocofaa.Mine
open Go.RowKit Go.Proofs.YtlokmijoaocofaaW.PrintWords Go.Proofs.YtlokmijoaocofaaW.PrintLast Go.Proofs.YtlokmijoaocofaaW.PrintMore
open Go.Proofs.Ytlokmijoaocofaa.PBoardAgain
theorem cont95_calls (g : Nat) (lb : Array Value) (p : S65 → Bool) (A : Option Addr) (n c : Nat) (L : List S65) (w : World) (eg : ∀ args w, (callFunc g args).run Try.prog w = .ok (.enter g args) w) (hn : L.length = n) (hr : Kd.C k65 w A n L) (hl : n ≤ 100000)
    (hp : CloOn g lb enc95 p w L) :
    Calls Try.prog 36 #[.slice A n c, .func (.func g) #[] lb] w fun e w' => e = .returned (.bool (L.any p)) ∧ Below w.heap.size w w' := by
  have HC := Aside0.mk (idx95_calls g lb p A n c L w eg hn hr hl hp)
  have HX := Aside0.mk (idxB_any p L)
  generalize idxB p L = z at HC HX
  clear hr hn hp
  go_enter Try.func36, Try.ntmps36
  go_wp2_with fail
  refine HC.out.mono ?_
  rintro e w2 ⟨rfl, hb⟩
  go_wp2
  go_ret
  exact ⟨by rw [← HX.out]; rfl, hb⟩
theorem attr_clo (nm : ByteArray) (B : Nat) (w : World) (hc : w.cell? ⟨B, 0, none⟩ = some (.string nm)) : CloAt 37 #[.pointer (some ⟨B, 0, none⟩)] enc95 (fun x => x.f0.toList == nm.toList) w := fun W x hb => by
  have h0 := (hb.cell (World.block_lt_of_cell? w _ hc)).trans hc
  have hlt := World.block_lt_of_cell? W _ h0
  show Calls _ _ #[enc95 x, .pointer (some ⟨B, 0, none⟩)] W _
  unfold enc95
  go_enter Try.func37, Try.ntmps37
  go_wp2
  go_ret
  exact ⟨rfl, below_alloc (Below.refl _ _) _⟩
def kindOk (a : S65) : Bool :=
  if a.f1 = 1 then !decide (a.f2 < -2147483648) && (!decide (2147483648 < a.f3) && !decide (a.f3 < a.f2))
  else (a.f1 == 2) && ((a.f2 == 0) && (a.f3 == 0))
def attrAt (S : List S65) (i : Nat) : Bool := nameOk (S.getD i z65).f0 && (!((S.take i).any fun x => x.f0.toList == (S.getD i z65).f0.toList) && kindOk (S.getD i z65))
def chkFrom (S : List S65) : Nat → Nat → Option Nat
  | 0, _ => none
  | k + 1, i => if attrAt S i then chkFrom S k (i + 1) else some i
/-- The first attribute that is not in form; none: there is none. -/
def checkBad (S : List S65) : Option Nat := if S.length < 1 ∨ 4 < S.length then some 0 else chkFrom S S.length 0
def CheckPost (w : World) (S : List S65) (e : Ending) (w' : World) : Prop :=
  match checkBad S with
  | none => e = .returned .nilIface ∧ Below w.heap.size w w'
  | some i => ∃ b, w.heap.size ≤ b ∧ e = .returned (.iface 103 (.pointer (some ⟨b, 0, none⟩))) ∧ IsFault w' b ⟨#[118, 97, 108, 117, 101]⟩ (i : Int) 3 ∧ Below w.heap.size w w'
theorem cp_bad {w w' : World} {S : List S65} {e : Ending} {i : Nat} (h : checkBad S = some i) (ho : ∃ b, w.heap.size ≤ b ∧ e = .returned (.iface 103 (.pointer (some ⟨b, 0, none⟩))) ∧ IsFault w' b ⟨#[118, 97, 108, 117, 101]⟩ (i : Int) 3 ∧ Below w.heap.size w w') : CheckPost w S e w' := by
  unfold CheckPost
  rw [h]
  exact ho
theorem cp_ok {w w' : World} {S : List S65} {e : Ending} (h : checkBad S = none) (ho : e = .returned .nilIface ∧ Below w.heap.size w w') : CheckPost w S e w' := by
  unfold CheckPost
  rw [h]
  exact ho
theorem CheckPost.bad {w w' : World} {S : List S65} {e : Ending} {i : Nat} (h : CheckPost w S e w') (hb : checkBad S = some i) : ∃ b, w.heap.size ≤ b ∧ e = .returned (.iface 103 (.pointer (some ⟨b, 0, none⟩))) ∧ IsFault w' b ⟨#[118, 97, 108, 117, 101]⟩ (i : Int) 3 ∧ Below w.heap.size w w' := by
  unfold CheckPost at h
  rw [hb] at h
  exact h
theorem CheckPost.ok {w w' : World} {S : List S65} {e : Ending} (h : CheckPost w S e w') (hb : checkBad S = none) : e = .returned .nilIface ∧ Below w.heap.size w w' := by
  unfold CheckPost at h
  rw [hb] at h
  exact h
theorem chkFrom_none {S : List S65} : ∀ (k i : Nat), chkFrom S k i = none → ∀ j, i ≤ j → j < i + k → attrAt S j = true
  | 0, i, _, j, h1, h2 => by omega
  | k + 1, i, h, j, h1, h2 => by
    unfold chkFrom at h
    split at h
    · by_cases hj : j = i
      · rw [hj]; assumption
      · exact chkFrom_none k (i + 1) h j (by omega) (by omega)
    · cases h
theorem checkBad_none {S : List S65} (h : checkBad S = none) : 1 ≤ S.length ∧ S.length ≤ 4 ∧ ∀ a ∈ S, nameOk a.f0 = true ∧ kindOk a = true := by
  unfold checkBad at h
  split at h
  · cases h
  · refine ⟨by omega, by omega, fun a ha => ?_⟩
    obtain ⟨i, hi, rfl⟩ := List.getElem_of_mem ha
    have := chkFrom_none S.length 0 h i (Nat.zero_le _) (by omega)
    have e : S.getD i z65 = S[i] := by rw [List.getD_eq_getElem?_getD, List.getElem?_eq_getElem hi]; rfl
    unfold attrAt at this
    rw [e] at this
    simp only [Bool.and_eq_true] at this
    exact ⟨this.1, this.2.2⟩
set_option maxHeartbeats 8000000 in
set_option maxRecDepth 100000 in
theorem check_calls (A : Option Addr) (n c : Nat) (S : List S65) (w : World) (hn : S.length = n) (hr : Kd.C k65 w A n S) (hl : n ≤ 100000) (hcd : n ≤ c) :
    Calls Try.prog 21 #[.slice A n c] w (CheckPost w S) := by
  have HRS := Aside0.mk hr
  have HN := Aside0.mk hn
  clear hr hn
  by_cases hlen : n < 1 ∨ 4 < n
  · have HB := Aside0.mk (fun e w' ho => cp_bad (w := w) (w' := w') (S := S) (e := e) (i := 0) (by unfold checkBad; rw [if_pos (by have := HN.out; omega)]) ho)
    generalize CheckPost w S = POST at HB ⊢
    by_cases h1 : n < 1
    · have q1 : decide ((n : Int) < 1) = true := decide_eq_true (by omega)
      clear hlen
      obtain rfl : n = 0 := by omega
      go_enter Try.func21, Try.ntmps21
      go_wp2_with fail
      refine (vfault_calls _ _ _).mono ?_
      rintro e w1 ⟨b, h1, rfl, hf, hb⟩
      go_wp2
      try go_ret
      exact HB.out _ _ ⟨b, h1, rfl, hf, hb⟩
    · have q1 : decide ((n : Int) < 1) = false := decide_eq_false (by omega)
      have q2 : decide (4 < (n : Int)) = true := decide_eq_true (by omega)
      clear hlen
      go_enter Try.func21, Try.ntmps21
      go_wp2_with fail
      refine (vfault_calls _ _ _).mono ?_
      rintro e w1 ⟨b, h1, rfl, hf, hb⟩
      go_wp2
      try go_ret
      exact HB.out _ _ ⟨b, h1, rfl, hf, hb⟩
  · have q1 : decide ((n : Int) < 1) = false := decide_eq_false (by omega)
    have q2 : decide (4 < (n : Int)) = false := decide_eq_false (by omega)
    have HFB := Aside0.mk (show checkBad S = chkFrom S n 0 by unfold checkBad; rw [if_neg (by have := HN.out; omega), HN.out])
    have HEP := Aside0.mk (fun i e w' h ho => cp_bad (w := w) (w' := w') (S := S) (e := e) (i := i) h ho)
    have HOP := Aside0.mk (fun e w' h ho => cp_ok (w := w) (w' := w') (S := S) (e := e) h ho)
    generalize CheckPost w S = POST at HEP HOP ⊢
    clear hlen
    go_enter Try.func21, Try.ntmps21
    go_wp2_with fail
    go_loopg [3, 4, 16, 21, 33, 54] (n + 1) (fun k v3 v4 v16 v21 v33 v54 W => ∃ i : Nat, Aside0 (i ≤ n ∧ k + i = n + 1 ∧ checkBad S = chkFrom S (n - i) i) ∧ v16 = .int .i64 (i : Int) ∧ Aside0 (Below w.heap.size w W))
    case atStart => exact ⟨0, ⟨by omega, by omega, HFB.out⟩, rfl, ⟨Below.refl _ _⟩⟩
    case round =>
      obtain ⟨i, HI, rfl, HB⟩ := hrel
      by_cases hi : i < n
      · have b1 : decide ((i : Int) < (n : Int)) = true := decide_eq_true (by omega)
        have b2 : decide (i < n) = true := decide_eq_true (by omega)
        have p1 : (0 : Int) ≤ (i : Int) := by omega
        have p2 : (i : Int) < (n : Int) := by omega
        have hstep : chkFrom S (n - i) i = if attrAt S i then chkFrom S (n - (i + 1)) (i + 1) else some i := by
          rw [show n - i = (n - (i + 1)) + 1 by omega]
          rfl
        obtain ⟨ad, e, h0, h1, h2, h3⟩ := at_T65 HRS.out i p1 p2
        cases e
        rw [Int.toNat_natCast] at h0 h1 h2 h3
        replace h0 := (HB.out.cell (World.block_lt_of_cell? w _ h0)).trans h0
        replace h1 := (HB.out.cell (World.block_lt_of_cell? w _ h1)).trans h1
        replace h2 := (HB.out.cell (World.block_lt_of_cell? w _ h2)).trans h2
        replace h3 := (HB.out.cell (World.block_lt_of_cell? w _ h3)).trans h3
        have hrd : rd_T65 S (i : Int) = S.getD i z65 := rfl
        rw [hrd] at h0 h1 h2 h3
        unfold attrAt at hstep
        generalize S.getD i z65 = p at h0 h1 h2 h3 hstep
        have HST0 := Aside0.mk hstep
        clear hrd hstep
        go_wp2_with fail
        refine (name_calls p.f0 _).mono ?_
        rintro e w1 ⟨rfl, hb⟩
        have hnew := heap_alloc_new wr (.cells #[.string p.f0, .int .i64 p.f1, .int .i64 p.f2, .int .i64 p.f3] 65 (0, 0))
        have KB6 := Aside0.mk ((hb.block _ (blk_lt hnew)).trans hnew)
        have n_ := Aside0.mk (below_then (below_alloc HB.out (.cells #[.string p.f0, .int .i64 p.f1, .int .i64 p.f2, .int .i64 p.f3] 65)) (below_size (below_alloc HB.out _)) hb)
        clear HB hb hnew h0 h1 h2 h3
        have HB := n_
        clear n_
        generalize wr.heap.size = g6 at KB6 ⊢
        cases hnm : nameOk p.f0 with
        | false =>
          have HST := Aside0.mk (show chkFrom S (n - i) i = some i by rw [HST0.out, hnm]; rfl)
          have HE := Aside0.mk (fun e w' ho => HEP.out i e w' (by rw [HI.out.2.2, HST.out]) ho)
          clear hnm
          go_wp2_with fail
          refine (vfault_calls _ _ _).mono ?_
          rintro e w9 ⟨b, hbl, rfl, hf, hb⟩
          have hfin := HE.out _ _ ⟨b, Nat.le_trans HB.out.size hbl, rfl, hf, below_then HB.out HB.out.size hb⟩
          clear hf hb hbl
          go_wp2
          try go_ret
          exact hfin
        | true =>
          rw [hnm, Bool.true_and] at HST0
          clear hnm
          have p3 : (i : Int) ≤ (c : Int) := by omega
          have HC := Aside0.mk (fun W (hW : Below w.heap.size w W ∧ W.cell? ⟨g6, 0, none⟩ = some (.string p.f0)) => cont95_calls 37 #[.pointer (some ⟨g6, 0, none⟩)] _ (some ad) i c (S.take i) W (enters_of Try.func37 (by kernel_rfl) rfl) (by rw [List.length_take]; have := HN.out; omega) (C_take (Kd.C_below HRS.out hW.1) i (by omega)) (by omega) ((attr_clo p.f0 g6 W hW.2).on _))
          have q0 := (blk_cell KB6.out 0).trans (show _ = some (Value.string p.f0) from rfl)
          go_wp2_with fail
          refine (HC.out _ ⟨HB.out, q0⟩).mono ?_
          rintro e w2 ⟨rfl, hb⟩
          have k_ := Aside0.mk ((hb.block _ (blk_lt KB6.out)).trans KB6.out)
          have n_ := Aside0.mk (below_then HB.out HB.out.size hb)
          clear KB6 HB hb q0
          have KB6 := k_
          have HB := n_
          clear k_ n_ HC
          cases hany : ((S.take i).any fun x => x.f0.toList == p.f0.toList) with
          | true =>
            have HST := Aside0.mk (show chkFrom S (n - i) i = some i by rw [HST0.out, hany]; rfl)
            have HE := Aside0.mk (fun e w' ho => HEP.out i e w' (by rw [HI.out.2.2, HST.out]) ho)
            clear hany
            go_wp2_with fail
            refine (vfault_calls _ _ _).mono ?_
            rintro e w9 ⟨b, hbl, rfl, hf, hb⟩
            have hfin := HE.out _ _ ⟨b, Nat.le_trans HB.out.size hbl, rfl, hf, below_then HB.out HB.out.size hb⟩
            clear hf hb hbl
            go_wp2
            try go_ret
            exact hfin
          | false =>
            rw [hany, Bool.not_false, Bool.true_and] at HST0
            clear hany
            have y0 := (blk_cell KB6.out 0).trans (show _ = some (Value.string p.f0) from rfl)
            have y1 := (blk_cell KB6.out 1).trans (show _ = some (Value.int .i64 p.f1) from rfl)
            have y2 := (blk_cell KB6.out 2).trans (show _ = some (Value.int .i64 p.f2) from rfl)
            have y3 := (blk_cell KB6.out 3).trans (show _ = some (Value.int .i64 p.f3) from rfl)
            have HST := HST0
            clear HST0
            by_cases t1 : p.f1 = 1
            · have o1 : (p.f1 == 1) = true := by simpa using t1
              by_cases t2 : p.f2 < -2147483648
              · have e2 : decide (p.f2 < -2147483648) = true := decide_eq_true t2
                have HV := Aside0.mk (show kindOk p = false by unfold kindOk; rw [if_pos t1, e2]; rfl)
                clear t1 t2
                have HE := Aside0.mk (fun e w' ho => HEP.out i e w' (by rw [HI.out.2.2, HST.out, HV.out]; rfl) ho)
                go_wp2_with fail
                refine (vfault_calls _ _ _).mono ?_
                rintro e w9 ⟨b, hbl, rfl, hf, hb⟩
                have hfin := HE.out _ _ ⟨b, Nat.le_trans HB.out.size hbl, rfl, hf, below_then HB.out HB.out.size hb⟩
                clear hf hb hbl
                go_wp2
                try go_ret
                exact hfin
              · have e2 : decide (p.f2 < -2147483648) = false := decide_eq_false t2
                by_cases t3 : 2147483648 < p.f3
                · have e3 : decide (2147483648 < p.f3) = true := decide_eq_true t3
                  have HV := Aside0.mk (show kindOk p = false by unfold kindOk; rw [if_pos t1, e2, e3]; rfl)
                  clear t1 t2 t3
                  have HE := Aside0.mk (fun e w' ho => HEP.out i e w' (by rw [HI.out.2.2, HST.out, HV.out]; rfl) ho)
                  go_wp2_with fail
                  refine (vfault_calls _ _ _).mono ?_
                  rintro e w9 ⟨b, hbl, rfl, hf, hb⟩
                  have hfin := HE.out _ _ ⟨b, Nat.le_trans HB.out.size hbl, rfl, hf, below_then HB.out HB.out.size hb⟩
                  clear hf hb hbl
                  go_wp2
                  try go_ret
                  exact hfin
                · have e3 : decide (2147483648 < p.f3) = false := decide_eq_false t3
                  by_cases t4 : p.f3 < p.f2
                  · have e4 : decide (p.f3 < p.f2) = true := decide_eq_true t4
                    have HV := Aside0.mk (show kindOk p = false by unfold kindOk; rw [if_pos t1, e2, e3, e4]; rfl)
                    clear t1 t2 t3 t4
                    have HE := Aside0.mk (fun e w' ho => HEP.out i e w' (by rw [HI.out.2.2, HST.out, HV.out]; rfl) ho)
                    go_wp2_with fail
                    refine (vfault_calls _ _ _).mono ?_
                    rintro e w9 ⟨b, hbl, rfl, hf, hb⟩
                    have hfin := HE.out _ _ ⟨b, Nat.le_trans HB.out.size hbl, rfl, hf, below_then HB.out HB.out.size hb⟩
                    clear hf hb hbl
                    go_wp2
                    try go_ret
                    exact hfin
                  · have e4 : decide (p.f3 < p.f2) = false := decide_eq_false t4
                    have HV := Aside0.mk (show kindOk p = true by unfold kindOk; rw [if_pos t1, e2, e3, e4]; rfl)
                    clear t1 t2 t3 t4
                    go_wp2_with fail
                    go_roundg (gk - 1)
                    case measure => have := HI.out; omega
                    case rel => exact ⟨i + 1, ⟨by omega, by have := HI.out; omega, by rw [HI.out.2.2, HST.out, HV.out]; rfl⟩, rfl, HB⟩
            · have o1 : (p.f1 == 1) = false := by simpa using t1
              have HPO := Aside0.mk (show kindOk p = ((p.f1 == 2) && ((p.f2 == 0) && (p.f3 == 0))) by unfold kindOk; rw [if_neg t1])
              clear t1
              cases e1 : (p.f1 == 2) with
              | false =>
                have HV := Aside0.mk (show kindOk p = false by rw [HPO.out, e1]; rfl)
                have HE := Aside0.mk (fun e w' ho => HEP.out i e w' (by rw [HI.out.2.2, HST.out, HV.out]; rfl) ho)
                go_wp2_with fail
                refine (vfault_calls _ _ _).mono ?_
                rintro e w9 ⟨b, hbl, rfl, hf, hb⟩
                have hfin := HE.out _ _ ⟨b, Nat.le_trans HB.out.size hbl, rfl, hf, below_then HB.out HB.out.size hb⟩
                clear hf hb hbl
                go_wp2
                try go_ret
                exact hfin
              | true =>
                cases e2 : (p.f2 == 0) with
                | false =>
                  have HV := Aside0.mk (show kindOk p = false by rw [HPO.out, e1, e2]; rfl)
                  have HE := Aside0.mk (fun e w' ho => HEP.out i e w' (by rw [HI.out.2.2, HST.out, HV.out]; rfl) ho)
                  go_wp2_with fail
                  refine (vfault_calls _ _ _).mono ?_
                  rintro e w9 ⟨b, hbl, rfl, hf, hb⟩
                  have hfin := HE.out _ _ ⟨b, Nat.le_trans HB.out.size hbl, rfl, hf, below_then HB.out HB.out.size hb⟩
                  clear hf hb hbl
                  go_wp2
                  try go_ret
                  exact hfin
                | true =>
                  cases e3 : (p.f3 == 0) with
                  | false =>
                    have HV := Aside0.mk (show kindOk p = false by rw [HPO.out, e1, e2, e3]; rfl)
                    have HE := Aside0.mk (fun e w' ho => HEP.out i e w' (by rw [HI.out.2.2, HST.out, HV.out]; rfl) ho)
                    go_wp2_with fail
                    refine (vfault_calls _ _ _).mono ?_
                    rintro e w9 ⟨b, hbl, rfl, hf, hb⟩
                    have hfin := HE.out _ _ ⟨b, Nat.le_trans HB.out.size hbl, rfl, hf, below_then HB.out HB.out.size hb⟩
                    clear hf hb hbl
                    go_wp2
                    try go_ret
                    exact hfin
                  | true =>
                    have HV := Aside0.mk (show kindOk p = true by rw [HPO.out, e1, e2, e3]; rfl)
                    go_wp2_with fail
                    go_roundg (gk - 1)
                    case measure => have := HI.out; omega
                    case rel => exact ⟨i + 1, ⟨by omega, by have := HI.out; omega, by rw [HI.out.2.2, HST.out, HV.out]; rfl⟩, rfl, HB⟩
      · have b1 : decide ((i : Int) < (n : Int)) = false := decide_eq_false (by omega)
        have b2 : decide (i < n) = false := decide_eq_false (by omega)
        have hfin := fun W => HOP.out (.returned .nilIface) W (by rw [HI.out.2.2, show n - i = 0 by omega]; rfl)
        have hfin2 := hfin _ ⟨rfl, HB.out⟩
        clear hfin
        go_wp2
        try go_ret
        exact hfin2
end Go.Proofs.Ytlokmijoaocofaa.Mine
end
section
/-
  What a board is in memory: three maps and a schema, as functions; what keeps it. No condition.
-/
namespace Go.Proofs.Ytlokmijoaocofaa.Mine
open Go.Maps Go.RowKit Go.Proofs.YtlokmijoaocofaaW.PrintWords Go.Proofs.YtlokmijoaocofaaW.PrintLast Go.Proofs.YtlokmijoaocofaaW.PrintMore
open Go.Proofs.Ytlokmijoaocofaa.PBoardAgain
abbrev P2 := Int × Int
structure Bd where
  evs : P2 → Option (List SV × ByteArray)
  subs : P2 → Option (List SP)
  got : P2 × P2 → Bool
def Bd.empty : Bd := ⟨fun _ => none, fun _ => none, fun _ => false⟩
def evOk (w : World) (f : P2 → Option Value) (g : P2 → Option (List SV × ByteArray)) : Prop :=
  ∀ x, (g x = none → f x = none) ∧ ∀ V p, g x = some (V, p) → ∃ A n c, f x = some (encE A n c p) ∧ V.length = n ∧ n ≤ c ∧ n ≤ 100000 ∧ Kd.C k63 w A n V
def subOk (w : World) (f : P2 → Option Value) (g : P2 → Option (List SP)) : Prop :=
  ∀ x, (g x = none → f x = none) ∧ ∀ F, g x = some F → ∃ A n c, f x = some (.slice A n c) ∧ F.length = n ∧ n ≤ c ∧ n ≤ 100000 ∧ Kd.C k119 w A n F
def gotOk (f : P2 × P2 → Option Value) (g : P2 × P2 → Bool) : Prop := ∀ x, f x = if g x then some (.bool true) else none
/-- A board at block g, of schema S, that holds B; at most N entries a map. -/
def IsBd (base : Nat) (w : World) (g : Nat) (S : List SA) (B : Bd) (N : Nat) : Prop :=
  ∃ (A : Option Addr) (n c be bs bg : Nat) (fe fs : P2 → Option Value) (fg : P2 × P2 → Option Value),
    w.heap[g]? = some (.cells #[.slice A n c, .map (some be), .map (some bs), .map (some bg)] 74 (0, 0)) ∧ (S.length = n ∧ n ≤ 100000 ∧ Kd.C k65 w A n S) ∧
    MapIs Try.prog 88 k2 w be N fe ∧ MapIs Try.prog 43 k2 w bs N fs ∧ MapIs Try.prog 92 k4 w bg N fg ∧ (be ≠ bs ∧ be ≠ bg ∧ bs ≠ bg) ∧ (base ≤ g ∧ base ≤ be ∧ base ≤ bs ∧ base ≤ bg) ∧ evOk w fe B.evs ∧ subOk w fs B.subs ∧ gotOk fg B.got
theorem evOk.below {w w' : World} {f g} (h : evOk w f g) (hb : Below w.heap.size w w') : evOk w' f g := fun x => ⟨(h x).1, fun V p hg => by
  obtain ⟨A, n, c, h1, h2, h3, h4, h5⟩ := (h x).2 V p hg
  exact ⟨A, n, c, h1, h2, h3, h4, Kd.C_below h5 hb⟩⟩
theorem subOk.below {w w' : World} {f g} (h : subOk w f g) (hb : Below w.heap.size w w') : subOk w' f g := fun x => ⟨(h x).1, fun F hg => by
  obtain ⟨A, n, c, h1, h2, h3, h4, h5⟩ := (h x).2 F hg
  exact ⟨A, n, c, h1, h2, h3, h4, Kd.C_below h5 hb⟩⟩
theorem IsBd.below {base : Nat} {w w' : World} {g : Nat} {S : List SA} {B : Bd} {N : Nat} (h : IsBd base w g S B N) (hb : Below w.heap.size w w') : IsBd base w' g S B N := by
  obtain ⟨A, n, c, be, bs, bg, fe, fs, fg, h1, ⟨h2, h3, h4⟩, h5, h6, h7, h8, h8b, h9, h10, h11⟩ := h
  exact ⟨A, n, c, be, bs, bg, fe, fs, fg, (hb.block g (blk_lt h1)).trans h1, ⟨h2, h3, Kd.C_below h4 hb⟩, h5.below hb, h6.below hb, h7.below hb, h8, h8b, h9.below hb, h10.below hb, h11⟩
theorem IsBd.mono {base : Nat} {w : World} {g : Nat} {S : List SA} {B : Bd} {N M : Nat} (h : IsBd base w g S B N) (hm : N ≤ M) : IsBd base w g S B M := by
  obtain ⟨A, n, c, be, bs, bg, fe, fs, fg, h1, h2, h5, h6, h7, h8⟩ := h
  exact ⟨A, n, c, be, bs, bg, fe, fs, fg, h1, h2, h5.mono hm, h6.mono hm, h7.mono hm, h8⟩
theorem map_cell_none {w : World} {b : Nat} {es : Array MapEntry} {cl : Nat} (h : w.heap[b]? = some (.map es cl)) (a : Addr) (ha : a.block = b) : w.cell? a = none := by
  subst ha
  simp [World.cell?, h]
/-- A map has turned: cells stay. -/
theorem cell_turned {w w' : World} {b : Nat} {es : Array MapEntry} {cl : Nat} (hm : w.heap[b]? = some (.map es cl)) (hg : w.grownBy w' (some b)) {a : Addr} {u : Value} (hc : w.cell? a = some u) : w'.cell? a = some u := by
  have hne : a.block ≠ b := fun e => by
    rw [map_cell_none hm a e] at hc
    cases hc
  have := hg.block a.block (World.block_lt_of_cell? w a hc) (fun e => hne (Option.some.inj e))
  simpa [World.cell?, this] using hc
theorem CV_turned {w w' : World} {b : Nat} {es : Array MapEntry} {cl : Nat} (hm : w.heap[b]? = some (.map es cl)) (hg : w.grownBy w' (some b)) {A : Option Addr} {n : Nat} {L : List SV} (h : Kd.C k63 w A n L) : Kd.C k63 w' A n L :=
  ⟨h.1, h.2.1, fun hn => by
    obtain ⟨ad, e, hc⟩ := h.2.2 hn
    refine ⟨ad, e, fun j p hj => ?_⟩
    obtain ⟨cs, h1, h2, h3⟩ := hc j p hj
    obtain rfl := k63_open h2
    exact ⟨_, h1, k63_mk w' p, fun i u hi => cell_turned hm hg (h3 i u hi)⟩⟩
theorem CA_turned {w w' : World} {b : Nat} {es : Array MapEntry} {cl : Nat} (hm : w.heap[b]? = some (.map es cl)) (hg : w.grownBy w' (some b)) {A : Option Addr} {n : Nat} {L : List SA} (h : Kd.C k65 w A n L) : Kd.C k65 w' A n L :=
  ⟨h.1, h.2.1, fun hn => by
    obtain ⟨ad, e, hc⟩ := h.2.2 hn
    refine ⟨ad, e, fun j p hj => ?_⟩
    obtain ⟨cs, h1, h2, h3⟩ := hc j p hj
    obtain rfl := k65_open h2
    exact ⟨_, h1, k65_mk w' p, fun i u hi => cell_turned hm hg (h3 i u hi)⟩⟩
theorem CP_turned {w w' : World} {b : Nat} {es : Array MapEntry} {cl : Nat} (hm : w.heap[b]? = some (.map es cl)) (hg : w.grownBy w' (some b)) {A : Option Addr} {n : Nat} {L : List SP} (h : Kd.C k119 w A n L) : Kd.C k119 w' A n L :=
  ⟨h.1, h.2.1, fun hn => by
    obtain ⟨ad, e, hc⟩ := h.2.2 hn
    refine ⟨ad, e, fun j p hj => ?_⟩
    obtain ⟨cs, h1, h2, h3⟩ := hc j p hj
    obtain rfl := k119_open h2
    exact ⟨_, h1, k119_mk w' p, fun i u hi => cell_turned hm hg (h3 i u hi)⟩⟩
theorem evOk.turned {w w' : World} {b : Nat} {es : Array MapEntry} {cl : Nat} (hm : w.heap[b]? = some (.map es cl)) (hg : w.grownBy w' (some b)) {f g} (h : evOk w f g) : evOk w' f g := fun x => ⟨(h x).1, fun V p hg' => by
  obtain ⟨A, n, c, h1, h2, h3, h4, h5⟩ := (h x).2 V p hg'
  exact ⟨A, n, c, h1, h2, h3, h4, CV_turned hm hg h5⟩⟩
theorem subOk.turned {w w' : World} {b : Nat} {es : Array MapEntry} {cl : Nat} (hm : w.heap[b]? = some (.map es cl)) (hg : w.grownBy w' (some b)) {f g} (h : subOk w f g) : subOk w' f g := fun x => ⟨(h x).1, fun F hg' => by
  obtain ⟨A, n, c, h1, h2, h3, h4, h5⟩ := (h x).2 F hg'
  exact ⟨A, n, c, h1, h2, h3, h4, CP_turned hm hg h5⟩⟩
theorem MapIs.obj {α : Type} {P : Program} {k : TypeId} {kv : α → Value} {w : World} {b n : Nat} {f : α → Option Value} (h : MapIs P k kv w b n f) : ∃ es cl, w.heap[b]? = some (.map es cl) := by
  obtain ⟨D, ⟨es, cl, h1, _⟩, _⟩ := h
  exact ⟨es, cl, h1⟩
theorem MapIs.other {α : Type} {P : Program} {k : TypeId} {kv : α → Value} {w w' : World} {b b' n : Nat} {f : α → Option Value} (h : MapIs P k kv w b n f) (hg : w.grownBy w' (some b')) (hne : b ≠ b') : MapIs P k kv w' b n f := h.block (hg.block b h.lt (fun e => hne (Option.some.inj e)))
/-- What a board's method leaves: all below base, and all blocks of cells that were there. -/
def Kept (base : Nat) (w w' : World) : Prop := Below base w w' ∧ ∀ (b : Nat) (cs : Array Value) (t : TypeId) (fr : Nat × Nat), w.heap[b]? = some (.cells cs t fr) → w'.heap[b]? = some (.cells cs t fr)
theorem Kept.of {base : Nat} {w w' : World} (h : Below w.heap.size w w') (hb : base ≤ w.heap.size) : Kept base w w' := ⟨h.mono hb, fun b cs t fr hc => (h.block b (Array.getElem?_eq_some_iff.1 hc).1).trans hc⟩
theorem Kept.trans {base : Nat} {w w1 w2 : World} (h : Kept base w w1) (h2 : Kept base w1 w2) : Kept base w w2 := ⟨h.1.trans h2.1, fun b cs t fr hc => h2.2 b cs t fr (h.2 b cs t fr hc)⟩
theorem Kept.cell {base : Nat} {w w' : World} (h : Kept base w w') {a : Addr} {u : Value} (hc : w.cell? a = some u) : w'.cell? a = some u := by
  cases ho : w.heap[a.block]? with
  | none => simp [World.cell?, ho] at hc
  | some o =>
    cases o with
    | cells cs t fr =>
      have := h.2 a.block cs t fr ho
      rw [← hc]
      simp [World.cell?, ho, this]
    | _ => simp [World.cell?, ho] at hc
theorem Kept.turned {base : Nat} {w w' : World} {b : Nat} {es : Array MapEntry} {cl : Nat} (hm : w.heap[b]? = some (.map es cl)) (hg : w.grownBy w' (some b)) (hb : base ≤ b) : Kept base w w' :=
  ⟨(Below.refl base w).grown hg (by have := (Array.getElem?_eq_some_iff.1 hm).1; omega) (fun k hk => by cases hk; exact hb), fun b' cs t fr hc => by
    have hne : b' ≠ b := by
      rintro rfl
      rw [hm] at hc
      cases hc
    exact (hg.block b' (Array.getElem?_eq_some_iff.1 hc).1 (fun e => hne (Option.some.inj e))).trans hc⟩
theorem CV_kept {base : Nat} {w w' : World} (hk : Kept base w w') {A : Option Addr} {n : Nat} {L : List SV} (h : Kd.C k63 w A n L) : Kd.C k63 w' A n L :=
  ⟨h.1, h.2.1, fun hn => by
    obtain ⟨ad, e, hc⟩ := h.2.2 hn
    refine ⟨ad, e, fun j p hj => ?_⟩
    obtain ⟨cs, h1, h2, h3⟩ := hc j p hj
    obtain rfl := k63_open h2
    exact ⟨_, h1, k63_mk w' p, fun i u hi => hk.cell (h3 i u hi)⟩⟩
theorem CA_kept {base : Nat} {w w' : World} (hk : Kept base w w') {A : Option Addr} {n : Nat} {L : List SA} (h : Kd.C k65 w A n L) : Kd.C k65 w' A n L :=
  ⟨h.1, h.2.1, fun hn => by
    obtain ⟨ad, e, hc⟩ := h.2.2 hn
    refine ⟨ad, e, fun j p hj => ?_⟩
    obtain ⟨cs, h1, h2, h3⟩ := hc j p hj
    obtain rfl := k65_open h2
    exact ⟨_, h1, k65_mk w' p, fun i u hi => hk.cell (h3 i u hi)⟩⟩
theorem CP_kept {base : Nat} {w w' : World} (hk : Kept base w w') {A : Option Addr} {n : Nat} {L : List SP} (h : Kd.C k119 w A n L) : Kd.C k119 w' A n L :=
  ⟨h.1, h.2.1, fun hn => by
    obtain ⟨ad, e, hc⟩ := h.2.2 hn
    refine ⟨ad, e, fun j p hj => ?_⟩
    obtain ⟨cs, h1, h2, h3⟩ := hc j p hj
    obtain rfl := k119_open h2
    exact ⟨_, h1, k119_mk w' p, fun i u hi => hk.cell (h3 i u hi)⟩⟩
theorem CR_kept {base : Nat} {w w' : World} (hk : Kept base w w') {A : Option Addr} {n : Nat} {L : List RV} (h : Kd.C k29 w A n L) : Kd.C k29 w' A n L :=
  ⟨h.1, h.2.1, fun hn => by
    obtain ⟨ad, e, hc⟩ := h.2.2 hn
    refine ⟨ad, e, fun j p hj => ?_⟩
    obtain ⟨cs, h1, h2, h3⟩ := hc j p hj
    obtain rfl := k29_open h2
    exact ⟨_, h1, k29_mk w' p, fun i u hi => hk.cell (h3 i u hi)⟩⟩
theorem ErrIs.kept {base : Nat} {w w' : World} (hk : Kept base w w') {c : Int} : ∀ {n : Nat} {v : Value}, ErrIs w c n v → ErrIs w' c n v
  | 0, _, h => h
  | _ + 1, _, ⟨b, wh, at_, x, hv, hc, hx⟩ => ⟨b, wh, at_, x, hv, hk.2 b _ _ _ hc, ErrIs.kept hk hx⟩
/-- A fault of the board's. -/
theorem bfault_calls (c : Int) (w : World) : Calls Try.prog 24 #[.int .i64 c] w fun e w' => ∃ b, w.heap.size ≤ b ∧ e = .returned (.iface 103 (.pointer (some ⟨b, 0, none⟩))) ∧ IsFault w' b ⟨#[98, 111, 97, 114, 100]⟩ 0 c ∧ Below w.heap.size w w' := by
  go_enter Try.func24, Try.ntmps24
  go_wp2
  go_ret
  exact ⟨w.heap.size, Nat.le_refl _, rfl, heap_alloc_new w _, below_alloc (Below.refl _ _) _⟩
theorem IsBd.new {base : Nat} {w : World} {A : Option Addr} {n c be bs bg : Nat} {S : List SA} (hn : S.length = n) (hl : n ≤ 100000) (hC : Kd.C k65 w A n S) (h1 : MapIs Try.prog 88 k2 w be 0 (fun _ => none)) (h2 : MapIs Try.prog 43 k2 w bs 0 (fun _ => none)) (h3 : MapIs Try.prog 92 k4 w bg 0 (fun _ => none)) (hne : be ≠ bs ∧ be ≠ bg ∧ bs ≠ bg) (hbase : base ≤ w.heap.size ∧ base ≤ be ∧ base ≤ bs ∧ base ≤ bg) :
    IsBd base (w.alloc (.cells #[.slice A n c, .map (some be), .map (some bs), .map (some bg)] 74)) w.heap.size S Bd.empty 0 := by
  have hb := below_alloc (Below.refl w.heap.size w) (.cells #[.slice A n c, .map (some be), .map (some bs), .map (some bg)] 74)
  exact ⟨A, n, c, be, bs, bg, _, _, _, heap_alloc_new w _, ⟨hn, hl, Kd.C_below hC hb⟩, h1.below hb, h2.below hb, h3.below hb, hne, hbase, fun x => ⟨fun _ => rfl, fun V p h => by cases h⟩, fun x => ⟨fun _ => rfl, fun F h => by cases h⟩, fun x => rfl⟩
def isFaultV (w : World) (c : Int) (v : Value) : Prop := ∃ n, ErrIs w c n v
set_option maxRecDepth 100000 in
theorem new_calls (base b off n c : Nat) (A : Option Addr) (S : List SA) (w : World) (hn : S.length = n) (hA : A = some ⟨b, off, none⟩ ∨ n = 0) (hr : Kd.C k65 w A n S) (hl : n ≤ 100000) (hcd : n ≤ c) (hbase : base ≤ w.heap.size) :
    Calls Try.prog 11 #[.slice A n c] w fun e w' => Below w.heap.size w w' ∧ ((∃ i, checkBad S = some i ∧ ∃ b, e = .returned (.tuple #[.pointer none, .iface 103 (.pointer (some ⟨b, 0, none⟩))]) ∧ IsFault w' b ⟨#[118, 97, 108, 117, 101]⟩ (i : Int) 3) ∨ (checkBad S = none ∧ ∃ g, w.heap.size ≤ g ∧ e = .returned (.tuple #[.pointer (some ⟨g, 0, none⟩), .nilIface]) ∧ IsBd base w' g S Bd.empty 0)) := by
  have HR := Aside0.mk hr
  have HN := Aside0.mk hn
  have HA := Aside0.mk hA
  clear hr hn hA
  have hmm := @run_makeMap Try.prog
  cases hck : checkBad S with
  | some i =>
    have HCK := Aside0.mk hck
    have HC := Aside0.mk (fun e w' (h : CheckPost w S e w') => h.bad hck)
    clear hck
    go_enter Try.func11, Try.ntmps11
    go_wp2_with fail
    refine (check_calls A n c S _ HN.out HR.out hl hcd).mono ?_
    rintro e w1 hq
    obtain ⟨b1, hbl, rfl, hf, hb⟩ := HC.out _ _ hq
    clear hq HC
    go_wp2
    try go_ret2
    exact ⟨hb, Or.inl ⟨i, rfl, b1, rfl, hf⟩⟩
  | none =>
    have hn1 : 0 < n := by have := (checkBad_none hck).1; have := HN.out; omega
    have HC := Aside0.mk (fun e w' (h : CheckPost w S e w') => h.ok hck)
    obtain rfl : A = some ⟨b, off, none⟩ := by
      rcases HA.out with h | h
      · exact h
      · omega
    clear hck
    go_enter Try.func11, Try.ntmps11
    go_wp2_with fail
    refine (check_calls _ n c S _ HN.out HR.out hl hcd).mono ?_
    rintro e w1 hq
    obtain ⟨rfl, hb⟩ := HC.out _ _ hq
    have HB := Aside0.mk hb
    clear hq HC hb
    go_wp2_with fail
    refine (clone_A b off n c S _ HN.out (Kd.C_below HR.out HB.out) (by omega) hn1).mono ?_
    rintro e w2 ⟨A2, c2, rfl, hc2, hC2, _, hb⟩
    have HC2 := Aside0.mk hC2
    have n_ := Aside0.mk (below_then HB.out HB.out.size hb)
    clear HB hC2 hb
    have HB := n_
    clear n_
    have s1 : (w2.alloc (Obj.map #[] 0)).heap.size = w2.heap.size + 1 := by show (w2.heap.push _).size = _; exact Array.size_push _
    have s2 : ((w2.alloc (Obj.map #[] 0)).alloc (Obj.map #[] 0)).heap.size = w2.heap.size + 1 + 1 := by show ((w2.alloc (Obj.map #[] 0)).heap.push _).size = _; rw [Array.size_push, s1]
    have s3 : (((w2.alloc (Obj.map #[] 0)).alloc (Obj.map #[] 0)).alloc (Obj.map #[] 0)).heap.size = w2.heap.size + 1 + 1 + 1 := by show (((w2.alloc (Obj.map #[] 0)).alloc (Obj.map #[] 0)).heap.push _).size = _; rw [Array.size_push, s2]
    have b1 := below_alloc (Below.refl (w2.alloc (Obj.map #[] 0)).heap.size (w2.alloc (Obj.map #[] 0))) (Obj.map #[] 0)
    have b2 := below_alloc (Below.refl ((w2.alloc (Obj.map #[] 0)).alloc (Obj.map #[] 0)).heap.size ((w2.alloc (Obj.map #[] 0)).alloc (Obj.map #[] 0))) (Obj.map #[] 0)
    have b0 := below_alloc (below_alloc (below_alloc (Below.refl w2.heap.size w2) (Obj.map #[] 0)) (Obj.map #[] 0)) (Obj.map #[] 0)
    have m1 := ((MapIs.made (P := Try.prog) (k := 88) (kv := k2) w2).below b1).below b2
    have m2 := (MapIs.made (P := Try.prog) (k := 43) (kv := k2) (w2.alloc (Obj.map #[] 0))).below b2
    have m3 := MapIs.made (P := Try.prog) (k := 92) (kv := k4) ((w2.alloc (Obj.map #[] 0)).alloc (Obj.map #[] 0))
    rw [s1] at m2
    rw [s2] at m3
    have hsz := HB.out.size
    have hbd := IsBd.new (base := base) (c := c2) HN.out hl (Kd.C_below HC2.out b0) m1 m2 m3 ⟨by omega, by omega, by omega⟩ ⟨by omega, by omega, by omega, by omega⟩
    rw [s3] at hbd
    have hfin := below_then HB.out HB.out.size (below_alloc b0 (.cells #[.slice A2 n c2, .map (some w2.heap.size), .map (some (w2.heap.size + 1)), .map (some (w2.heap.size + 1 + 1))] 74))
    have hge : w.heap.size ≤ w2.heap.size + 1 + 1 + 1 := by have := HB.out.size; omega
    clear s1 s2 s3 b1 b2 b0 m1 m2 m3
    go_wp2
    try go_ret2
    exact ⟨hfin, Or.inr ⟨trivial, _, hge, rfl, hbd⟩⟩
end Go.Proofs.Ytlokmijoaocofaa.Mine
end
section
/-
  How the board's Due compares two subscriptions: by node, then by number. No condition.
-/
namespace Go.Proofs.Ytlokmijoaocofaa.Mine
open Go.RowKit Go.Sort Go.Proofs.YtlokmijoaocofaaW.PrintWords Go.Proofs.YtlokmijoaocofaaW.PrintLast Go.Proofs.YtlokmijoaocofaaW.PrintMore
open Go.Proofs.Ytlokmijoaocofaa.PBoardAgain
abbrev SW := S43
def cellsW (x : SW) : List Value := [.int .i64 x.f0, .int .i64 x.f1]
def cmpW (x y : SW) : Int := if Lib.compareInt x.f0 y.f0 ≠ 0 then Lib.compareInt x.f0 y.f0 else Lib.compareInt x.f1 y.f1
theorem or_calls (b : Nat) (a c : Int) (w : World) (h0 : w.cell? ⟨b, 0, none⟩ = some (.int .i64 a)) (h1 : w.cell? ⟨b, 1, none⟩ = some (.int .i64 c)) :
    Calls Try.prog 32 #[.slice (some ⟨b, 0, none⟩) 2 2] w fun e w' => e = .returned (.int .i64 (if a ≠ 0 then a else c)) ∧ w' = w := by
  obtain ⟨z, hz⟩ : ∃ z, z = (if a ≠ 0 then a else c) := ⟨_, rfl⟩
  rw [← hz]
  have HZ := Aside0.mk hz
  have HA := Aside0.mk h0
  have HC := Aside0.mk h1
  clear hz h0 h1
  go_enter Try.func32, Try.ntmps32
  go_wp2_with fail
  go_loopg [5, 8] 3 (fun k v5 v8 W => ∃ i : Nat, Aside0 (i ≤ 2 ∧ k + i = 3 ∧ (0 < i → a = 0) ∧ (1 < i → c = 0)) ∧ v8 = .int .i64 (i : Int) ∧ W = w)
  case atStart => exact ⟨0, ⟨by omega, by omega, by omega, by omega⟩, rfl, rfl⟩
  case round =>
    obtain ⟨i, HI, rfl, rfl⟩ := hrel
    by_cases hi : i < 2
    · have b1 : decide ((i : Int) < 2) = true := decide_eq_true (by omega)
      have b2 : decide (i < 2) = true := decide_eq_true hi
      have p1 : (0 : Int) ≤ (i : Int) := by omega
      have p2 : (i : Int) < 2 := by omega
      obtain ⟨v, hv⟩ : ∃ v, v = (if i = 0 then a else c) := ⟨_, rfl⟩
      have hcell : wr.cell? ⟨b, i, none⟩ = some (.int .i64 v) := by
        rw [hv]
        by_cases h0 : i = 0
        · rw [if_pos h0, h0]; exact HA.out
        · rw [if_neg h0, show i = 1 by omega]; exact HC.out
      have HV := Aside0.mk hv
      clear hv
      by_cases hv0 : v = 0
      · have e1 : (v != 0) = false := by simp [hv0]
        have HV0 := Aside0.mk hv0
        clear hv0
        go_wp2_with fail
        go_roundg (gk - 1)
        case measure => have := HI.out; omega
        case rel => exact ⟨i + 1, ⟨by omega, by have := HI.out; omega, fun h => by
          by_cases h0 : i = 0
          · have := HV.out; rw [if_pos h0, HV0.out] at this; exact this.symm
          · exact HI.out.2.2.1 (by omega), fun h => by
          have := HV.out; rw [if_neg (by omega), HV0.out] at this; exact this.symm⟩, rfl, rfl⟩
      · have e1 : (v != 0) = true := by simpa using hv0
        have HE := Aside0.mk (show v = z by
          rw [HZ.out, HV.out]
          by_cases h0 : i = 0
          · have h1 := HV.out
            rw [if_pos h0] at h1 ⊢
            rw [if_pos (by rw [← h1]; exact hv0)]
          · rw [if_neg h0, if_neg (by have := HI.out.2.2.1 (by omega); simpa using this)])
        clear hv0
        go_wp2
        go_ret
        exact ⟨by rw [← HE.out]; rfl, rfl⟩
    · have b1 : decide ((i : Int) < 2) = false := decide_eq_false (by omega)
      have b2 : decide (i < 2) = false := decide_eq_false hi
      have HE := Aside0.mk (show z = 0 by
        have h1 := HI.out.2.2.1 (by omega)
        have h2 := HI.out.2.2.2 (by omega)
        rw [HZ.out, h1, h2]
        rfl)
      clear hi
      go_wp2
      go_ret
      exact ⟨by rw [HE.out]; rfl, rfl⟩
set_option maxRecDepth 100000 in
set_option maxHeartbeats 4000000 in
theorem closure_calls (x y : SW) (W : World) : Calls Try.prog 31 #[.agg (cellsW x).toArray, .agg (cellsW y).toArray] W fun e w' => e = .returned (.int .i64 (cmpW x y)) ∧ ∃ q os', w' = grow (W.drewN q) os' := by
  have hc1 := fun W' => AnyG.cmp_Compare_int Try.cmpI x.f0 y.f0 W'
  have hc2 := fun W' => AnyG.cmp_Compare_int Try.cmpI x.f1 y.f1 W'
  change ∀ W', Calls Try.prog 33 _ _ _ at hc1
  change ∀ W', Calls Try.prog 33 _ _ _ at hc2
  have HV := Aside0.mk (show cmpW x y = (if Lib.compareInt x.f0 y.f0 ≠ 0 then Lib.compareInt x.f0 y.f0 else Lib.compareInt x.f1 y.f1) from rfl)
  generalize cmpW x y = z at HV ⊢
  generalize Lib.compareInt x.f0 y.f0 = a at HV hc1
  generalize Lib.compareInt x.f1 y.f1 = c at HV hc2
  have HC1 := Aside0.mk hc1
  have HC2 := Aside0.mk hc2
  clear hc1 hc2
  show Calls _ _ #[.agg #[.int .i64 x.f0, .int .i64 x.f1], .agg #[.int .i64 y.f0, .int .i64 y.f1]] W _
  go_enter Try.func31, Try.ntmps31
  go_wp2_with fail
  have g0 : W.heap.size ≠ W.heap.size + 1 := by omega
  obtain ⟨b1, hb1⟩ : ∃ b, b = W.heap.size := ⟨_, rfl⟩
  obtain ⟨b2, hb2⟩ : ∃ b, b = W.heap.size + 1 := ⟨_, rfl⟩
  have hx0 : ((W.alloc (.cells #[.int .i64 x.f0, .int .i64 x.f1] 43)).alloc (.cells #[.int .i64 y.f0, .int .i64 y.f1] 43)).cell? ⟨b1, 0, none⟩ = some (.int .i64 x.f0) := by
    rw [hb1, World.cell?_alloc_past _ _ _ (by simp), World.cell?_alloc_at _ _ _ _ rfl]; rfl
  have hx1 : ((W.alloc (.cells #[.int .i64 x.f0, .int .i64 x.f1] 43)).alloc (.cells #[.int .i64 y.f0, .int .i64 y.f1] 43)).cell? ⟨b1, 1, none⟩ = some (.int .i64 x.f1) := by
    rw [hb1, World.cell?_alloc_past _ _ _ (by simp), World.cell?_alloc_at _ _ _ _ rfl]; rfl
  have hy0 : ((W.alloc (.cells #[.int .i64 x.f0, .int .i64 x.f1] 43)).alloc (.cells #[.int .i64 y.f0, .int .i64 y.f1] 43)).cell? ⟨b2, 0, none⟩ = some (.int .i64 y.f0) := by
    rw [hb2, World.cell?_alloc_at _ _ _ _ (by simp)]; rfl
  have hy1 : ((W.alloc (.cells #[.int .i64 x.f0, .int .i64 x.f1] 43)).alloc (.cells #[.int .i64 y.f0, .int .i64 y.f1] 43)).cell? ⟨b2, 1, none⟩ = some (.int .i64 y.f1) := by
    rw [hb2, World.cell?_alloc_at _ _ _ _ (by simp)]; rfl
  have HG := Aside0.mk (show (W.alloc (.cells #[.int .i64 x.f0, .int .i64 x.f1] 43)).alloc (.cells #[.int .i64 y.f0, .int .i64 y.f1] 43) = grow W #[.cells #[.int .i64 x.f0, .int .i64 x.f1] 43, .cells #[.int .i64 y.f0, .int .i64 y.f1] 43] from by rw [alloc_eq_grow, alloc_eq_grow, grow_grow]; rfl)
  rw [← hb2, ← hb1]
  generalize (W.alloc (.cells #[.int .i64 x.f0, .int .i64 x.f1] 43)).alloc (.cells #[.int .i64 y.f0, .int .i64 y.f1] 43) = W2 at hx0 hx1 hy0 hy1 HG ⊢
  generalize x.f0 = x0 at *
  generalize x.f1 = x1 at *
  generalize y.f0 = y0 at *
  generalize y.f1 = y1 at *
  clear g0 hb1 hb2
  go_region_held3 (fun X => X.cell? ⟨b1, 0, none⟩ = some (.int .i64 x0) ∧ X.cell? ⟨b1, 1, none⟩ = some (.int .i64 x1) ∧ X.cell? ⟨b2, 0, none⟩ = some (.int .i64 y0) ∧ X.cell? ⟨b2, 1, none⟩ = some (.int .i64 y1)) (go_keep) (first | (go_at_call 33; (with_reducible refine (HC1.out _).mono ?_); rintro e w' ⟨rfl, rfl⟩) | (go_at_call 33; (with_reducible refine (HC2.out _).mono ?_); rintro e w' ⟨rfl, rfl⟩) | (go_at_call 32; (with_reducible refine (or_calls _ a c _ ?o1 ?o2).mono ?_); (case o1 => (exact World.cell?_alloc_at (w := W2) _ _ _ _ rfl)); (case o2 => (exact World.cell?_alloc_at (w := W2) _ _ _ _ rfl)); rintro e w' ⟨he, rfl⟩; rw [← HV.out] at he; subst he))
  all_goals go_wp2_with fail
  all_goals go_ret
  all_goals exact ⟨rfl, 1, #[.cells #[.int .i64 x0, .int .i64 x1] 43, .cells #[.int .i64 y0, .int .i64 y1] 43, .cells #[.int .i64 a, .int .i64 c] 3], by rw [HG.out, alloc_eq_grow, grow_grow]; rfl⟩
instance : Inhabited SW := ⟨⟨0, 0⟩⟩
theorem cmp_lays (blk off size : Nat) (w : World) : CmpLays Try.prog 31 #[] cellsW 2 cmpW blk off size w :=
  fun _ _ _ _ x y => closure_calls x y _
theorem compareInt_sign (a b : Int) : (Lib.compareInt a b < 0 ↔ a < b) ∧ (Lib.compareInt a b = 0 ↔ a = b) := by
  unfold Lib.compareInt
  constructor <;> (split <;> (try split)) <;> constructor <;> intro h <;> omega
theorem cmpW_lt (x y : SW) : (ltOf cmpW) x y = true ↔ (x.f0 < y.f0 ∨ (x.f0 = y.f0 ∧ x.f1 < y.f1)) := by
  have h0 := compareInt_sign x.f0 y.f0
  have h1 := compareInt_sign x.f1 y.f1
  simp only [ltOf, cmpW, decide_eq_true_eq]
  split
  · rename_i h
    simp only [decide_eq_true_eq]
    constructor
    · intro hh; exact .inl (h0.1.1 hh)
    · rintro (hh | ⟨hh, _⟩)
      · exact h0.1.2 hh
      · exact absurd (h0.2.2 hh) h
  · rename_i h
    have h := h0.2.1 (by omega)
    simp only [decide_eq_true_eq]
    constructor
    · intro hh; exact .inr ⟨h, h1.1.1 hh⟩
    · rintro (hh | ⟨_, hh⟩)
      · omega
      · exact h1.1.2 hh
theorem cmpW_ge (x y : SW) : (ltOf cmpW) x y = false ↔ ¬ (x.f0 < y.f0 ∨ (x.f0 = y.f0 ∧ x.f1 < y.f1)) := by
  rw [← cmpW_lt, Bool.not_eq_true]
theorem cmpW_swo : SWO (ltOf cmpW) := by
  constructor
  · intro x; rw [cmpW_ge]; omega
  · intro x y z h1 h2; rw [cmpW_lt] at h1 h2 ⊢; omega
  · intro x y z h1 h2; rw [cmpW_ge] at h1 h2 ⊢; omega
theorem cmpW_total (x y : SW) (h1 : (ltOf cmpW) x y = false) (h2 : (ltOf cmpW) y x = false) : x = y := by
  rw [cmpW_ge] at h1 h2
  rcases x with ⟨x0, x1⟩
  rcases y with ⟨y0, y1⟩
  simp only at h1 h2
  rw [show x0 = y0 by omega, show x1 = y1 by omega]
end Go.Proofs.Ytlokmijoaocofaa.Mine
end
section
/-
  A slice of board.Who of the call's own, sorted by node and number. Condition: fewer than 2^62.
-/
namespace Go.Proofs.Ytlokmijoaocofaa.Mine
open Go.RowKit Go.Sort Go.Proofs.YtlokmijoaocofaaW.PrintWords Go.Proofs.YtlokmijoaocofaaW.PrintLast Go.Proofs.YtlokmijoaocofaaW.PrintMore
open Go.Proofs.Ytlokmijoaocofaa.PBoardAgain
abbrev kW := k43
abbrev tW : Nat := 43
def flatW (xs : List SW) : List Value := (flatK cellsW 2 xs.toArray).toList
theorem flatW_length (xs : List SW) : (flatW xs).length = xs.length * 2 := by simp [flatW]
theorem flatW_get (xs : List SW) (t : Nat) (h : t < xs.length * 2) (p : SW) (hp : xs[t / 2]? = some p) : (flatW xs)[t]? = (cellsW p)[t % 2]? := by
  have h1 : t < (flatK cellsW 2 xs.toArray).size := by simpa using h
  have h2 := get_flatK cellsW 2 xs.toArray t (by simpa using h)
  rw [getElem!_pos _ t h1] at h2
  have h3 : (xs.toArray[t / 2]!) = p := by simp [hp]
  rw [h3] at h2
  unfold flatW
  rw [Array.getElem?_toList, Array.getElem?_eq_getElem h1, h2]
  have h4 : t % 2 < 2 := Nat.mod_lt _ (by omega)
  have h5 : t % 2 < (cellsW p).length := h4
  rw [List.getElem?_eq_getElem h5, getElem!_pos (cellsW p) (t % 2) h5]
theorem flatW_reps (xs : List SW) : Reps (fun x cs => cs = cellsW x) 2 xs (flatW xs) := by
  refine ⟨flatW_length xs, fun j p hj => ?_⟩
  have hlt : j < xs.length := (List.getElem?_eq_some_iff.1 hj).1
  apply List.ext_getElem?
  intro i
  by_cases hi : i < 2
  · rw [List.getElem?_take_of_lt hi, List.getElem?_drop, flatW_get xs (j * 2 + i) (by omega) p (by rw [show (j * 2 + i) / 2 = j by omega]; exact hj), show (j * 2 + i) % 2 = i by omega]
  · rw [List.getElem?_take_eq_none (by omega), List.getElem?_eq_none (by show 2 ≤ i; omega)]
theorem reps_flatW {xs : List SW} {cs : List Value} (h : Reps (fun x cs => cs = cellsW x) 2 xs cs) : cs = flatW xs := by
  apply List.ext_getElem?
  intro t
  by_cases ht : t < xs.length * 2
  · have hj : t / 2 < xs.length := by omega
    have h1 := h.2 (t / 2) xs[t / 2] (List.getElem?_eq_getElem hj)
    rw [flatW_get xs t ht _ (List.getElem?_eq_getElem hj), ← h1, List.getElem?_take_of_lt (Nat.mod_lt _ (by omega)), List.getElem?_drop, show t / 2 * 2 + t % 2 = t by omega]
  · rw [List.getElem?_eq_none (by rw [h.1]; omega), List.getElem?_eq_none (by rw [flatW_length]; omega)]
section
variable {w : World} {base : Nat} {ok : Nat → Prop} {v : Value} {xs : List SW}
theorem own_of_R (h : Kd.R kW tW w base ok v xs) : w.ownsRow base tW 2 v xs.length (flatW xs) := by
  obtain ⟨_, inner, ho, hr⟩ := h
  have := reps_flatW (hr.imp_ (fun _ _ hp => k43_openM hp))
  rw [← this]
  exact ho
theorem R_of_own (h : w.ownsRow base tW 2 v xs.length (flatW xs)) (hok : ∀ k, v.ownBlock = some k → ok k) : Kd.R kW tW w base ok v xs :=
  ⟨hok, flatW xs, h, (flatW_reps xs).imp_ (fun p _ hp => by rw [hp]; exact k43_mkM _ _ _ p)⟩
end
theorem holds_flat {w : World} {g : Nat} {cur : Array Value} {e : TypeId} {F : Array Value} (hb : w.heap[g]? = some (.cells cur e (0, 0))) (ht : cur.toList.take F.size = F.toList) : Go.Sort.Holds id w g 0 F := by
  intro j hj
  refine ⟨?_, by simp [World.frozen?, hb]⟩
  have h1 : (cur.toList.take F.size)[j]? = F.toList[j]? := by rw [ht]
  rw [List.getElem?_take_of_lt hj] at h1
  simp only [World.cell?, hb, Nat.zero_add]
  simp only [Option.isSome_none, Bool.false_eq_true, if_false]
  rw [← Array.getElem?_toList, h1]
  simp [hj]
theorem heap_sortedF {w : World} {g n : Nat} {os : Array Obj} {cur : Array Value} {e : TypeId} {fr : Nat × Nat} (d : Array Value) (hb : w.heap[g]? = some (.cells cur e fr)) :
    (grow (putRow id (Sort.ahead w n) g 0 d) os).heap[g]? = some (.cells (putCells id 0 d cur) e fr) := by
  have hg : g < w.heap.size := (Array.getElem?_eq_some_iff.1 hb).1
  rw [heap_grow_old _ _ (by simpa using hg)]
  simp [putRow, mapBlock, Sort.ahead, Array.getElem?_modify, hb, onCells]
theorem grownBy_sortedF {w : World} {g n : Nat} {os : Array Obj} (d : Array Value) : w.grownBy (grow (putRow id (Sort.ahead w n) g 0 d) os) (some g) := by
  refine ⟨rfl, rfl, rfl, by simp, fun k hk hne => ?_⟩
  rw [heap_grow_old _ _ (by simpa using hk)]
  have : g ≠ k := fun e => hne (by rw [e])
  simp [putRow, mapBlock, Sort.ahead, Array.getElem?_modify, this]
theorem take_putCellsF (cur F : Array Value) (h : F.size ≤ cur.size) : (putCells id 0 F cur).toList.take F.size = F.toList := by
  apply List.ext_getElem?
  intro j
  by_cases hj : j < F.size
  · rw [List.getElem?_take_of_lt hj, Array.getElem?_toList]
    simp [putCells, hj, show j < cur.size by omega]
  · rw [List.getElem?_take_eq_none (by omega), List.getElem?_eq_none (by simp; omega)]
theorem own_sortedF {w : World} {base g cap n m : Nat} {e : TypeId} {os : Array Obj} {cur : Array Value} {ts : List SW} (hbase : base ≤ g) (hb : w.heap[g]? = some (.cells cur e (0, 0)))
    (hl : ts.length = m) (h1 : m ≤ cap) (h2 : cap ≤ maxLen) (h3 : cur.size = cap * 2) :
    (grow (putRowK cellsW 2 (Sort.ahead w n) g 0 ts.toArray) os).ownsRow base e 2 (.slice (some ⟨g, 0, none⟩) m cap) m (flatW ts) :=
  ⟨by rw [flatW_length, hl], .inr ⟨g, cap, _, rfl, hbase, heap_sortedF _ hb, h1, h2, by simp [putCells, h3], by
    have := take_putCellsF cur (flatK cellsW 2 ts.toArray) (by rw [size_flatK, h3]; simp; omega)
    rw [size_flatK] at this
    simp only [List.size_toArray, hl] at this
    exact this⟩⟩
def sortW (xs : List SW) : List SW := xs.mergeSort fun x y => !(ltOf cmpW) y x
theorem sortW_length (xs : List SW) : (sortW xs).length = xs.length := List.length_mergeSort xs
theorem sortW_mem (xs : List SW) (x : SW) : x ∈ sortW xs ↔ x ∈ xs := (List.mergeSort_perm xs _).mem_iff
def ltW (x y : SW) : Prop := x.f0 < y.f0 ∨ (x.f0 = y.f0 ∧ x.f1 < y.f1)
theorem sortW_sorted (xs : List SW) (hn : xs.Nodup) : (sortW xs).Pairwise ltW := by
  have h1 : (sortW xs).Pairwise (fun a b => (!(ltOf cmpW) b a) = true) := List.pairwise_mergeSort (le := fun x y => !(ltOf cmpW) y x)
    (fun a b c h1 h2 => by
      simp only [Bool.not_eq_true', cmpW_ge] at h1 h2 ⊢
      omega)
    (fun a b => by
      simp only [Bool.or_eq_true, Bool.not_eq_true', cmpW_ge]
      omega) xs
  have h2 : (sortW xs).Nodup := (List.mergeSort_perm xs _).nodup_iff.2 hn
  refine (h1.and h2).imp ?_
  intro a b h
  obtain ⟨h, hne⟩ := h
  simp only [Bool.not_eq_true', cmpW_ge] at h
  unfold ltW
  rcases Int.lt_trichotomy a.f0 b.f0 with h0 | h0 | h0
  · exact .inl h0
  · rcases Int.lt_trichotomy a.f1 b.f1 with h3 | h3 | h3
    · exact .inr ⟨h0, h3⟩
    · exfalso; apply hne; rcases a with ⟨_, _⟩; rcases b with ⟨_, _⟩; simp only at h0 h3; rw [h0, h3]
    · exfalso; apply h; exact .inr ⟨h0.symm, h3⟩
  · exfalso; apply h; exact .inl h0
theorem ltW_ext : ∀ {a b : List SW}, a.Pairwise ltW → b.Pairwise ltW → (∀ x, x ∈ a ↔ x ∈ b) → a = b
  | [], [], _, _, _ => rfl
  | [], y :: b, _, _, h => absurd ((h y).2 List.mem_cons_self) List.not_mem_nil
  | x :: a, [], _, _, h => absurd ((h x).1 List.mem_cons_self) List.not_mem_nil
  | x :: a, y :: b, ha, hb, h => by
    have ha1 := List.pairwise_cons.1 ha
    have hb1 := List.pairwise_cons.1 hb
    have e : x = y := by
      rcases List.mem_cons.1 ((h x).1 List.mem_cons_self) with e | e
      · exact e
      · rcases List.mem_cons.1 ((h y).2 List.mem_cons_self) with e2 | e2
        · exact e2.symm
        · have h1 := hb1.1 x e
          have h2 := ha1.1 y e2
          unfold ltW at h1 h2
          omega
    subst e
    have irr : ¬ ltW x x := by unfold ltW; omega
    rw [ltW_ext ha1.2 hb1.2 (fun z => by
      have hz := h z
      constructor
      · intro hm
        rcases List.mem_cons.1 (hz.1 (List.mem_cons_of_mem _ hm)) with e | e
        · subst e; exact absurd (ha1.1 _ hm) irr
        · exact e
      · intro hm
        rcases List.mem_cons.1 (hz.2 (List.mem_cons_of_mem _ hm)) with e | e
        · subst e; exact absurd (hb1.1 _ hm) irr
        · exact e)]
theorem sort_who (w : World) (base : Nat) (v : Value) (xs : List SW) (h : w.ownsRow base tW 2 v xs.length (flatW xs)) (hsz : xs.length < 4611686018427387904) :
    Calls Try.prog 30 #[v, .func (.func 31) #[] #[]] w fun e w' => e = .returned (.tuple #[]) ∧ w'.ownsRow base tW 2 v (sortW xs).length (flatW (sortW xs)) ∧ w.grownBy w' v.ownBlock := by
  rcases h.2 with ⟨rfl, h0⟩ | ⟨g, cap, cur, rfl, hg, hb, h1, h2, h3, h4⟩
  · obtain rfl := List.length_eq_zero_iff.1 h0
    refine (AnyF.slices_SortFunc_none Try.sortW none 0 _ w).mono ?_
    rintro e w' ⟨he, rfl⟩
    exact ⟨he, (by rw [show sortW [] = [] from List.mergeSort_nil]; exact h), rfl, rfl, rfl, Nat.le_refl _, fun _ _ _ => rfl⟩
  · have eg : ∀ args w, (callFunc 31 args).run Try.prog w = .ok (.enter 31 args) w := enters_of Try.func31 (by kernel_rfl) rfl
    have hH : HoldsK cellsW 2 w g 0 xs.toArray := holds_flat hb (by rw [size_flatK]; exact h4)
    refine (AnyQ.slices_SortFunc_total Try.sortW 2 Try.isAgg43 Try.sizeOf43 cellsW (fun _ => rfl) (fun x v hv => by simp [cellsW] at hv; rcases hv with rfl | rfl <;> rfl) cmpW cmpW_swo 31 #[] g 0 cap xs.toArray w eg (cmp_lays g 0 _ w) hH (blk_lt hb) (by simpa using hsz) cmpW_total).mono ?_
    rintro e w' ⟨he, n, os, rfl⟩
    refine ⟨he, ?_, ?_⟩
    · have := own_sortedF (n := n) (os := os) (ts := sortW xs) hg hb (sortW_length xs) h1 h2 h3
      rw [sortW_length]
      exact this
    · exact grownBy_sortedF _
end Go.Proofs.Ytlokmijoaocofaa.Mine
end
section
/-
  (*Board).Publish walked. Conditions: the publisher and the number are int64, the maps at most a million entries.
-/
namespace Go.Proofs.Ytlokmijoaocofaa.Mine
open Go.Maps Go.RowKit Go.Proofs.YtlokmijoaocofaaW.PrintWords Go.Proofs.YtlokmijoaocofaaW.PrintLast Go.Proofs.YtlokmijoaocofaaW.PrintMore
open Go.Proofs.Ytlokmijoaocofaa.PBoardAgain
def ErrE (w' : World) (c : Int) (e : Ending) : Prop := ∃ b n, e = .returned (.iface 103 (.pointer (some ⟨b, 0, none⟩))) ∧ ErrIs w' c n (.iface 103 (.pointer (some ⟨b, 0, none⟩)))
def Bd.pub (B : Bd) (x : P2) (V : List SV) (pay : ByteArray) : Bd := { B with evs := upd B.evs x (some (V, pay)) }
/-- What Publish answers, by code. -/
def pubC (S : List SA) (B : Bd) (x : P2) (V : List SV) (pay : ByteArray) : Int :=
  if (evBad S V pay).isSome then 3 else if (B.evs x).isSome then 5 else 0
def PubPost (base g : Nat) (S : List SA) (B : Bd) (N : Nat) (x : P2) (V : List SV) (pay : ByteArray) (w : World) (e : Ending) (w' : World) : Prop :=
  Kept base w w' ∧ ((pubC S B x V pay ≠ 0 ∧ ErrE w' (pubC S B x V pay) e ∧ IsBd base w' g S B N) ∨ (pubC S B x V pay = 0 ∧ e = .returned .nilIface ∧ IsBd base w' g S (B.pub x V pay) (N + 1)))
set_option maxHeartbeats 8000000 in
set_option maxRecDepth 100000 in
theorem publish_calls (base g N b off k c : Nat) (x : P2) (S : List SA) (B : Bd) (E : Option Addr) (V : List SV) (pay : ByteArray) (w : World) (hb : IsBd base w g S B N) (hbase : base ≤ w.heap.size) (hN : N ≤ 1000000) (hx : wf2 x) (hk : V.length = k) (hE : E = some ⟨b, off, none⟩ ∨ k = 0) (hr : Kd.C k63 w E k V) (hS1 : 0 < S.length) :
    Calls Try.prog 15 #[.pointer (some ⟨g, 0, none⟩), .int .i64 x.1, .int .i64 x.2, encE E k c pay] w (PubPost base g S B N x V pay w) := by
  have HBD := Aside0.mk hb
  have HR := Aside0.mk hr
  have HK := Aside0.mk hk
  have HE := Aside0.mk hE
  obtain ⟨l, hl⟩ := key_what hx
  have HL := Aside0.mk hl
  have HX := Aside0.mk hx
  clear hb hr hk hE hl hx
  obtain ⟨x1, x2⟩ := x
  cases heb : evBad S V pay with
  | some i =>
    have HPC := Aside0.mk (show pubC S B (x1, x2) V pay = 3 by unfold pubC; rw [heb]; rfl)
    have HEB := Aside0.mk heb
    have HFIN := Aside0.mk (fun e w' (h1 : Kept base w w') (h2 : ErrE w' 3 e) (h3 : IsBd base w' g S B N) => show PubPost base g S B N (x1, x2) V pay w e w' from ⟨h1, Or.inl ⟨by rw [HPC.out]; decide, by rw [HPC.out]; exact h2, h3⟩⟩)
    generalize PubPost base g S B N (x1, x2) V pay w = POST at HFIN ⊢
    clear heb
    unfold encE
    go_enter Try.func15, Try.ntmps15
    go_wp2_with fail
    have hb2 := below_alloc (Below.refl w.heap.size w) (.cells #[.slice E k c, .string pay] 24)
    have HKE := Aside0.mk (show (w.alloc (.cells #[.slice E k c, .string pay] 24)).heap[w.heap.size]? = some (.cells #[.slice E k c, .string pay] 24 (0, 0)) from heap_alloc_new w _)
    have HB := Aside0.mk hb2
    have HBD2 := Aside0.mk (HBD.out.below hb2)
    have HR2 := Aside0.mk (Kd.C_below HR.out hb2)
    clear hb2
    generalize w.alloc (.cells #[.slice E k c, .string pay] 24) = W2 at HKE HB HBD2 HR2 ⊢
    generalize w.heap.size = ge at HKE ⊢
    obtain ⟨A, n, cS, be, bs, bg, fe, fs, fg, h1, ⟨h2, h3, h4⟩, _⟩ := HBD2.out
    have q0 := (blk_cell h1 0).trans (show _ = some (Value.slice A n cS) from rfl)
    have q1 := (blk_cell HKE.out 0).trans (show _ = some (Value.slice E k c) from rfl)
    have q2 := (blk_cell HKE.out 1).trans (show _ = some (Value.string pay) from rfl)
    have HSC := Aside0.mk h4
    have HSN := Aside0.mk h2
    have HEVC := Aside0.mk (fun W (c1 : Kd.C k65 W A n S) (c2 : Kd.C k63 W E k V) => event_calls A E n k cS c S V pay W HSN.out HK.out c1 c2 h3)
    unfold encE at HEVC
    clear h1 h2 h4
    go_region_with (first
      | (go_at_call 27; (with_reducible refine (HEVC.out _ ?c1 ?c2).mono ?_); (case c1 => with_reducible repeat (first | exact HSC.out | apply Kd.C_drew | apply Kd.C_drewN)); (case c2 => with_reducible repeat (first | exact HR2.out | apply Kd.C_drew | apply Kd.C_drewN)); rintro e w1 hq; obtain ⟨b1, hbl, rfl, hf, hb⟩ := hq.bad HEB.out))
    all_goals
      have hb3 : Below W2.heap.size W2 w1 := ⟨hb.os, hb.tape, hb.output, hb.size, hb.block⟩
      have hfin := HFIN.out _ _ (Kept.of (below_then HB.out HB.out.size hb3) hbase) ⟨b1, 1, rfl, IsFault.errIs hf⟩ (HBD2.out.below hb3)
      clear hb hf hbl hq hb3
      go_wp2
      try go_ret
      exact hfin
  | none =>
    have hlen := evBad_len heb
    have HEB := Aside0.mk heb
    obtain ⟨A, n, cS, be, bs, bg, fe, fs, fg, h1, ⟨h2, h3, h4⟩, m1, m2, m3, hne, hba, e1, e2, e3⟩ := HBD.out
    have HM := Aside0.mk (And.intro m1 (And.intro m2 (And.intro m3 (And.intro hne (And.intro hba (And.intro e1 (And.intro e2 e3)))))))
    have HG := Aside0.mk h1
    have HSN := Aside0.mk (And.intro h2 (And.intro h3 h4))
    have HLEN := Aside0.mk hlen
    clear h1 h2 h4 m1 m2 m3 hne hba e1 e2 e3 heb hlen
    unfold encE
    go_enter Try.func15, Try.ntmps15
    go_wp2_with fail
    have hb2 := below_alloc (Below.refl w.heap.size w) (.cells #[.slice E k c, .string pay] 24)
    have HKE := Aside0.mk (show (w.alloc (.cells #[.slice E k c, .string pay] 24)).heap[w.heap.size]? = some (.cells #[.slice E k c, .string pay] 24 (0, 0)) from heap_alloc_new w _)
    have HB := Aside0.mk hb2
    generalize w.alloc (.cells #[.slice E k c, .string pay] 24) = W2 at HKE HB hb2 ⊢
    obtain ⟨ge, hge⟩ : ∃ g, g = w.heap.size := ⟨_, rfl⟩
    rw [← hge] at HKE ⊢
    have HGE := Aside0.mk hge
    have q0 : ∀ q : BelowP W2, q.w.cell? ⟨g, 0, none⟩ = some (.slice A n cS) := fun q => q.cell ((blk_cell ((hb2.block _ (blk_lt HG.out)).trans HG.out) 0).trans rfl)
    have q1 : ∀ q : BelowP W2, q.w.cell? ⟨ge, 0, none⟩ = some (.slice E k c) := fun q => q.cell ((blk_cell HKE.out 0).trans rfl)
    have q2 : ∀ q : BelowP W2, q.w.cell? ⟨ge, 1, none⟩ = some (.string pay) := fun q => q.cell ((blk_cell HKE.out 1).trans rfl)
    have HEVC := Aside0.mk (fun q : BelowP W2 => (event_calls A E n k cS c S V pay q.w HSN.out.1 HK.out (Kd.C_below (Kd.C_below HSN.out.2.2 hb2) q.h) (Kd.C_below (Kd.C_below HR.out hb2) q.h) h3).mono (fun e w' hq => hq.ok HEB.out))
    unfold encE at HEVC
    clear hge hb2
    refine wp_region_quiet_below (by kernel_rfl) (by kernel_rfl) ?_
    repeat (quiet_step ((go_at_call 27; (with_reducible refine Calls.below_of (HEVC.out _)))))
    refine wpQuiet_nil ?_
    rintro _ ⟨pq, rfl⟩
    obtain ⟨W3, hW3⟩ : ∃ W, W = pq.w := ⟨_, rfl⟩
    have hb3 := pq.h
    rw [← hW3] at hb3 ⊢
    clear hW3
    have n_ := Aside0.mk (below_then HB.out HB.out.size hb3)
    have k_ := Aside0.mk ((hb3.block _ (blk_lt HKE.out)).trans HKE.out)
    clear HEVC HB HKE hb3 q0 q1 q2 pq
    have HB := n_
    have HKE := k_
    clear n_ k_
    have HBD3 := Aside0.mk (HBD.out.below HB.out)
    have hG3 := (HB.out.block _ (blk_lt HG.out)).trans HG.out
    have y0 := (blk_cell hG3 1).trans (show _ = some (Value.map (some be)) from rfl)
    have z0 := (blk_cell HKE.out 0).trans (show _ = some (Value.slice E k c) from rfl)
    have z1 := (blk_cell HKE.out 1).trans (show _ = some (Value.string pay) from rfl)
    have lg := blk_lt hG3
    cases hev : B.evs (x1, x2) with
    | some vp =>
      obtain ⟨V2, p2⟩ := vp
      obtain ⟨A2, n2, c2, hfe, _⟩ := (HM.out.2.2.2.2.2.1 (x1, x2)).2 V2 p2 hev
      have hlk : (Instr.lookup 70 (.map (some be)) (.agg #[.int .i64 x1, .int .i64 x2]) true).run Try.prog W3 = .ok (.tuple #[.agg #[.slice A2 n2 c2, .string p2], .bool true]) W3 := (HM.out.1.below HB.out).look_some lawWhat Try.underlying70 (by rfl) HL.out hfe
      have HPC := Aside0.mk (show pubC S B (x1, x2) V pay = 5 by unfold pubC; rw [HEB.out, hev]; rfl)
      clear hev hfe hG3
      go_wp2_with fail
      refine (bfault_calls 5 _).mono ?_
      rintro e w4 ⟨b1, hbl, rfl, hf, hb⟩
      have hb4 := below_then (below_alloc (Below.refl W3.heap.size W3) (.cells #[.slice A2 n2 c2, .string p2] 24)) (below_size (below_alloc (Below.refl _ _) _)) hb
      have hfin : PubPost base g S B N (x1, x2) V pay w (.returned (.iface 103 (.pointer (some ⟨b1, 0, none⟩)))) w4 := ⟨Kept.of (below_then HB.out HB.out.size hb4) hbase, Or.inl ⟨by rw [HPC.out]; decide, by rw [HPC.out]; exact ⟨b1, 1, rfl, IsFault.errIs hf⟩, HBD3.out.below hb4⟩⟩
      clear hb hf hbl hb4
      go_wp2
      try go_ret
      exact hfin
    | none =>
      have hfe := (HM.out.2.2.2.2.2.1 (x1, x2)).1 hev
      have hlk : (Instr.lookup 70 (.map (some be)) (.agg #[.int .i64 x1, .int .i64 x2]) true).run Try.prog W3 = .ok (.tuple #[.agg #[.slice none 0 0, .string ⟨#[]⟩], .bool false]) W3 := (HM.out.1.below HB.out).look_none lawWhat Try.underlying70 (by rfl) HL.out hfe
      have HPC := Aside0.mk (show pubC S B (x1, x2) V pay = 0 by unfold pubC; rw [HEB.out, hev]; rfl)
      have hk0 : 0 < k := by have := HLEN.out; have := HSN.out.1; have := HK.out; have := hS1; omega
      have hk9 : k ≤ 100000 := by have := HLEN.out; have := HSN.out.1; have := HK.out; omega
      obtain rfl : E = some ⟨b, off, none⟩ := by
        rcases HE.out with h | h
        · exact h
        · omega
      have ln := blk_lt HKE.out
      have ln2 : ¬ (ge = W3.heap.size) := by omega
      clear hev hfe hG3
      go_wp2_with fail
      refine (clone_V b off k c V _ HK.out (Kd.C_below (Kd.C_below HR.out HB.out) (below_alloc (Below.refl _ _) _)) (by omega) hk0).mono ?_
      rintro e w4 ⟨A4, c4, rfl, hc4, hC4, hR4, hb⟩
      have ha := below_alloc (Below.refl W3.heap.size W3) (.cells #[.slice none 0 0, .string ⟨#[]⟩] 24)
      have hb4 := below_then ha ha.size hb
      have k4 := (hb4.block _ ln).trans HKE.out
      have HR4 := Aside0.mk (Kd.R_mono (Kd.R_bound hR4) (ok' := fun k => ge < k) (fun k hk => by have := hk.2.1; have := ha.size; omega))
      have n_ := Aside0.mk (below_then HB.out HB.out.size hb4)
      clear HB hb hb4 ha hR4 hC4 z0 z1 y0 hlk ln ln2 HKE HBD3 lg
      have HB := n_
      clear n_
      have z0 := (blk_cell k4 0).trans (show _ = some (Value.slice (some ⟨b, off, none⟩) k c) from rfl)
      have zf := blk_frozen k4 0
      go_upto_region 8 with (fail)
      have k5 : (w4.setCell ⟨ge, 0, none⟩ (.slice A4 k c4)).heap[ge]? = some (.cells #[.slice A4 k c4, .string pay] 24 (0, 0)) := by simpa using blk_set k4 0 (.slice A4 k c4)
      have HR5 := Aside0.mk (Kd.R_far (p := ⟨ge, 0, none⟩) HR4.out (fun k hk => by show k ≠ ge; omega) (.slice A4 k c4))
      have n_ := Aside0.mk (below_set (j := 0) (v := .slice A4 k c4) HB.out (Nat.le_of_eq HGE.out.symm))
      clear HB HR4 z0 zf
      have HB := n_
      clear n_
      generalize w4.setCell ⟨ge, 0, none⟩ (.slice A4 k c4) = W5 at k5 HR5 HB ⊢
      clear k4
      have z0 := (blk_cell k5 0).trans (show _ = some (Value.slice A4 k c4) from rfl)
      have z1 := (blk_cell k5 1).trans (show _ = some (Value.string pay) from rfl)
      have hG5 := (HB.out.block _ (blk_lt HG.out)).trans HG.out
      have y0 := (blk_cell hG5 1).trans (show _ = some (Value.map (some be)) from rfl)
      have hM5 := HM.out.1.below HB.out
      obtain ⟨W6, hrun, hM6, hgr⟩ := MapIs.store (w := W5.drew) (hM5.block rfl) lawWhat (fun _ _ => k2_inj) Try.underlying70 (by unfold maxLen; omega) HL.out (.agg #[.slice A4 k c4, .string pay])
      have hup : (Instr.mapUpdate 70 (.map (some be)) (.agg #[.int .i64 x1, .int .i64 x2]) (.agg #[.slice A4 k c4, .string pay])).run Try.prog W5.drew = .ok () W6 := hrun
      clear hrun
      obtain ⟨es, cl, hobj⟩ := hM5.obj
      have HBd : Below w.heap.size w W5.drew := ⟨HB.out.os, HB.out.tape, HB.out.output, HB.out.size, HB.out.block⟩
      have hobjd : W5.drew.heap[be]? = some (.map es cl) := hobj
      have hgne : g ≠ be := by
        rintro rfl
        rw [hG5] at hobj
        cases hobj
      have hne := HM.out.2.2.2.1
      have hkept : Kept base w W6 := (Kept.of HBd hbase).trans (Kept.turned hobjd hgr HM.out.2.2.2.2.1.2.1)
      obtain ⟨A5, c5, hv5, hc5, hC5⟩ := Kd.R_reads HR5.out
      have hA5 : A4 = A5 ∧ k = V.length ∧ c4 = c5 := by injection hv5 with h1 h2 h3; exact ⟨h1, h2, h3⟩
      have hev6 : evOk W6 (upd fe (x1, x2) (some (.agg #[.slice A4 k c4, .string pay]))) (upd B.evs (x1, x2) (some (V, pay))) := fun y => by
        unfold upd
        by_cases hy : y = (x1, x2)
        · rw [if_pos hy, if_pos hy]
          refine ⟨fun h => (by cases h), fun V2 p2 h => ?_⟩
          injection h with h
          injection h with h1 h2
          subst h1
          subst h2
          refine ⟨A4, k, c4, rfl, HK.out, by omega, hk9, ?_⟩
          have hC6 : Kd.C k63 W5.drew A4 k V := by rw [hA5.1, hA5.2.1]; exact Kd.C_drew hC5
          exact CV_turned hobjd hgr hC6
        · rw [if_neg hy, if_neg hy]
          exact ((HM.out.2.2.2.2.2.1.below HBd).turned hobjd hgr) y
      have hbd : IsBd base W6 g S (B.pub (x1, x2) V pay) (N + 1) := ⟨A, n, cS, be, bs, bg, _, fs, fg, (hgr.block g (by show g < W5.heap.size; exact blk_lt hG5) (fun e => hgne (Option.some.inj e))).trans hG5, ⟨HSN.out.1, HSN.out.2.1, CA_turned hobjd hgr (Kd.C_below HSN.out.2.2 HBd)⟩, hM6, ((HM.out.2.1.below HBd).other hgr hne.1.symm).mono (by omega), ((HM.out.2.2.1.below HBd).other hgr hne.2.1.symm).mono (by omega), hne, HM.out.2.2.2.2.1, hev6, (HM.out.2.2.2.2.2.2.1.below HBd).turned hobjd hgr, HM.out.2.2.2.2.2.2.2⟩
      have hfin : PubPost base g S B N (x1, x2) V pay w (.returned .nilIface) W6 := ⟨hkept, Or.inr ⟨HPC.out, rfl, hbd⟩⟩
      clear hbd hev6 hA5 hC5 hc5 hv5 hkept hne hgne hobjd HBd hobj hgr hM6 hM5 hG5 k5
      go_region_with (fail)
      all_goals
        go_wp2
        try go_ret
        exact hfin
end Go.Proofs.Ytlokmijoaocofaa.Mine
end
section
/-
  Who is due: what a range over the subscriptions has collected, as a relation (no program's step in it). No condition.
-/
namespace Go.Proofs.Ytlokmijoaocofaa.Mine
open Go.Maps Go.ChangeMaps Go.MapKept Go.RowKit Go.Proofs.YtlokmijoaocofaaW.PrintWords Go.Proofs.YtlokmijoaocofaaW.PrintLast Go.Proofs.YtlokmijoaocofaaW.PrintMore
open Go.Proofs.Ytlokmijoaocofaa.PBoardAgain
def pr (y : SW) : P2 := (y.f0, y.f1)
def mkW (x : P2) : SW := ⟨x.1, x.2⟩
theorem mkW_pr (y : SW) : mkW (pr y) = y := rfl
theorem pr_mkW (x : P2) : pr (mkW x) = x := rfl
theorem pr_inj {x y : SW} (h : pr x = pr y) : x = y := by rw [← mkW_pr x, ← mkW_pr y, h]
/-- Is x given the event (pub, seq) = t, of values V and payload p? -/
def dueB (S : List SA) (B : Bd) (t : P2) (V : List SV) (p : ByteArray) (x : P2) : Bool :=
  match B.subs x with
  | none => false
  | some F => matchB S F V p && !B.got (x, t)
abbrev keyW (y : SW) (l : Lit) : Prop := keyOf Try.prog tW (k2 (pr y)) = some l
structure DueRel (left : Lit → Bool) (cnt N : Nat) (due : P2 → Bool) (xs : List SW) : Prop where
  nodup : xs.Nodup
  len : xs.length + cnt ≤ N
  mem : ∀ y ∈ xs, wf2 (pr y) ∧ due (pr y) = true ∧ ∀ l, keyW y l → left l = false
  all : ∀ y l, keyW y l → due (pr y) = true → left l = false → y ∈ xs
theorem DueRel.start {D : DataW Value} {cnt N : Nat} {due : P2 → Bool} (hc : cnt ≤ N) (h : ∀ y l, keyW y l → due (pr y) = true → Maps.has D l = true) : DueRel (Maps.has D) cnt N due [] :=
  ⟨List.nodup_nil, by simpa using hc, fun y hy => (by cases hy), fun y l hk hd hl => by rw [h y l hk hd] at hl; cases hl⟩
theorem DueRel.step {left : Lit → Bool} {cnt cnt' N : Nat} {due : P2 → Bool} {xs : List SW} {x : P2} {kl : Lit} (h : DueRel left cnt N due xs) (hk : keyOf Try.prog tW (k2 x) = some kl) (hx : wf2 x) (hl : left kl = true) (hc : cnt' < cnt) (hd : due x = true) :
    DueRel (fun z => left z && !z.sameKey kl) cnt' N due (xs ++ [mkW x]) := by
  have hni : mkW x ∉ xs := fun hm => by
    have := (h.mem _ hm).2.2 kl hk
    rw [hl] at this
    cases this
  have hkk : kl.sameKey kl = true := WideAt.sameKey_self (lawWho.key hk)
  refine ⟨?_, ?_, ?_, ?_⟩
  · rw [List.nodup_append]
    refine ⟨h.nodup, by simp, fun a ha b hb => ?_⟩
    rw [List.mem_singleton.1 hb]
    rintro rfl
    exact hni ha
  · have := h.len
    simp only [List.length_append, List.length_singleton]
    omega
  · intro y hy
    rcases List.mem_append.1 hy with hy | hy
    · obtain ⟨h1, h2, h3⟩ := h.mem y hy
      exact ⟨h1, h2, fun l hl => by rw [h3 l hl]; rfl⟩
    · obtain rfl := List.mem_singleton.1 hy
      refine ⟨hx, hd, fun l hl2 => ?_⟩
      have : l = kl := Option.some.inj (hl2.symm.trans hk)
      rw [this, hkk]
      simp
  · intro y l hy hdy hly
    simp only [Bool.and_eq_false_iff] at hly
    rcases hly with hly | hly
    · exact List.mem_append_left _ (h.all y l hy hdy hly)
    · have hs : l.sameKey kl = true := by simpa using hly
      have := WideAt.sameKey_eq hs
      subst this
      have := k2_inj (lawWho.inj hy hk)
      have e : y = mkW x := pr_inj (this.trans (pr_mkW x).symm)
      rw [e]
      simp
theorem DueRel.skip {left : Lit → Bool} {cnt cnt' N : Nat} {due : P2 → Bool} {xs : List SW} {x : P2} {kl : Lit} (h : DueRel left cnt N due xs) (hk : keyOf Try.prog tW (k2 x) = some kl) (hc : cnt' < cnt) (hd : due x = false) :
    DueRel (fun z => left z && !z.sameKey kl) cnt' N due xs := by
  refine ⟨h.nodup, by have := h.len; omega, ?_, ?_⟩
  · intro y hy
    obtain ⟨h1, h2, h3⟩ := h.mem y hy
    exact ⟨h1, h2, fun l hl => by rw [h3 l hl]; rfl⟩
  · intro y l hy hdy hly
    simp only [Bool.and_eq_false_iff] at hly
    rcases hly with hly | hly
    · exact h.all y l hy hdy hly
    · have hs : l.sameKey kl = true := by simpa using hly
      have := WideAt.sameKey_eq hs
      subst this
      have := k2_inj (lawWho.inj hy hk)
      rw [this, hd] at hdy
      cases hdy
/-- The list that Due answers. -/
structure DueList (due : P2 → Bool) (N : Nat) (L : List SW) : Prop where
  sorted : L.Pairwise ltW
  len : L.length ≤ N
  mem : ∀ y ∈ L, wf2 (pr y) ∧ due (pr y) = true
  all : ∀ y, wf2 (pr y) → due (pr y) = true → y ∈ L
theorem DueRel.done {left : Lit → Bool} {cnt N : Nat} {due : P2 → Bool} {xs : List SW} (h : DueRel left cnt N due xs) (hl : ∀ kl, left kl = false) : DueList due N (sortW xs) :=
  ⟨sortW_sorted xs h.nodup, by rw [sortW_length]; have := h.len; omega, fun y hy => by have := h.mem y ((sortW_mem xs y).1 hy); exact ⟨this.1, this.2.1⟩, fun y hw hd => by
    obtain ⟨l, hk⟩ := key_who hw
    exact (sortW_mem xs y).2 (h.all y l hk hd (hl l))⟩
theorem DueList.uniq {due due' : P2 → Bool} {N M : Nat} {L L' : List SW} (h : DueList due N L) (h' : DueList due' M L') (e : ∀ x, wf2 x → due x = due' x) : L = L' :=
  ltW_ext h.sorted h'.sorted fun y => ⟨fun hy => by
    obtain ⟨h1, h2⟩ := h.mem y hy
    exact h'.all y h1 (by rw [← e _ h1]; exact h2), fun hy => by
    obtain ⟨h1, h2⟩ := h'.mem y hy
    exact h.all y h1 (by rw [e _ h1]; exact h2)⟩
theorem ranges_cnt {H : Type} {w : World} {P : Program} {k : TypeId} {R : Value → Option (DataW H × List MemPlace)} {b r n : Nat} {D : DataW H} {left : Lit → Bool} {cnt : Nat} (h : w.ranges P k R b r n D left cnt) : cnt ≤ n := by
  obtain ⟨es, clock, since, seen, c0, _, _, hs, _, _, _, hc, _⟩ := h
  rw [← hc]
  refine Nat.le_trans ?_ hs
  unfold leftOf
  exact Array.size_filter_le
theorem who_wf {x : P2} {kl : Lit} (h : keyOf Try.prog tW (k2 x) = some kl) : wf2 x := by
  obtain ⟨y, hy, hw⟩ := key_who_inv h
  rw [k2_inj hy]
  exact hw
/-- What stands at a key that has come up. -/
theorem holds_come {D : DataW Value} {f : P2 → Option Value} (hD : Holds Try.prog tW k2 D f) {x : P2} {kl : Lit} {c : Value} {y : DataW Value × List MemPlace} (hk : keyOf Try.prog tW (k2 x) = some kl) (hv : rawR c = some y) (hat : ∀ zd, D.atKey kl zd = y.1) : f x = some c := by
  have h1 : y = (.held c, []) := (Option.some.inj hv).symm
  obtain ⟨h2, h3⟩ := hD x kl hk
  rw [has_true_of_atKey hat] at h2
  cases hf : f x with
  | none => rw [hf] at h2; cases h2
  | some v =>
    have h4 := h3 v hf (.held c)
    have h5 := hat (.held c)
    rw [h1] at h5
    have h6 : (DataW.held c : DataW Value) = .held v := h5.symm.trans h4
    exact congrArg some (DataW.held.inj h6).symm
/-- A key has come up: what is known. -/
structure Come (w w' : World) (b r n : Nat) (D : DataW Value) (left : Lit → Bool) (cnt cnt' : Nat) (y : SW) (cv : Value) (kl : Lit) : Prop where
  key : keyOf Try.prog tW (k2 (pr y)) = some kl
  came : left kl = true
  at_ : ∀ zd, D.atKey kl zd = .held cv
  rg : w'.ranges Try.prog tW rawR b r n D (fun z => left z && !z.sameKey kl) cnt'
  lt : cnt' < cnt
  grown : w.grownBy w' (some r)
  size : w'.heap.size = w.heap.size
section
variable (w : World) {ops : Array Oper} {rest : List Oper} {o : Oper} {a : Act} {Q : Exit → Act → World → Prop}
theorem next_who (hg : o.guard = none) (it : Operand) (hop : o.op = Op.next it false) (b r n : Nat) (D : DataW Value) (left : Lit → Bool) (cnt : Nat)
    (hit : a.eval it = .pointer (some ⟨r, 0, none⟩)) (h : w.ranges Try.prog tW rawR b r n D left cnt)
    (hDone : Aside0 (∀ kl, left kl = false) → wpList Try.prog ops Q rest (a.put o.dst (.tuple #[.bool false])) w)
    (hMore : ∀ (y : SW) (cv : Value) (kl : Lit) (w' : World) (cnt' : Nat), Aside0 (Come w w' b r n D left cnt cnt' y cv kl) → (Instr.entry (.pointer (some ⟨r, 0, none⟩))).run Try.prog w' = .ok (.tuple #[.agg #[.int .i64 y.f0, .int .i64 y.f1], cv]) w' → wpList Try.prog ops Q rest (a.put o.dst (.tuple #[.bool true, .agg #[.int .i64 y.f0, .int .i64 y.f1], cv])) w') :
    wpList Try.prog ops Q (o :: rest) a w :=
  wpList_next_ranges w hg it hop tW lawWho rawR (fun y : SW => k2 (pr y)) id (fun key kl h => by obtain ⟨x, h1, _⟩ := key_who_inv h; exact ⟨mkW x, h1⟩) (fun v y _ => ⟨v, rfl⟩) b r n D left cnt hit h (fun _ hl => hDone ⟨hl⟩)
    (fun y cv kl yv w' cnt' hk hl hv hat hrg hlt hgr hsz hen => hMore y cv kl w' cnt' ⟨⟨hk, hl, fun zd => by
      have h1 : yv = (.held cv, []) := (Option.some.inj hv).symm
      have h2 := hat zd
      rw [h1] at h2
      exact h2, hrg, hlt, hgr, hsz⟩⟩ hen)
end
end Go.Proofs.Ytlokmijoaocofaa.Mine
end
