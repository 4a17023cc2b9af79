/-
  The filter parser as plain functions on lists of bytes: what each of its methods makes of a state (what is left to be read; where it went bad, counted from the end). No program, no memory.
-/
namespace Go.Proofs.YthaapijjjgkacaaDoor.Mine

structure St where
  l : List UInt8
  bad : Option Nat
def skip : List UInt8 → List UInt8
  | [] => []
  | c :: r => if c = 32 then skip r else c :: r
def isL (c : UInt8) : Bool := decide (97 ≤ c ∧ c ≤ 122)
def isD (c : UInt8) : Bool := decide (48 ≤ c ∧ c ≤ 57)
def isA (c : UInt8) : Bool := isL c || isD c
def blanksS (st : St) : St := match st.bad with | some _ => st | none => ⟨skip st.l, none⟩
def stopS (st : St) (n : Nat) : St := match st.bad with | some _ => st | none => ⟨st.l, some n⟩
def wordL : List UInt8 → List UInt8 × St
  | [] => ([], ⟨[], some 0⟩)
  | c :: r => if isL c then (c :: r.takeWhile isA, ⟨r.dropWhile isA, none⟩) else ([], ⟨c :: r, some (r.length + 1)⟩)
def wordS (st : St) : List UInt8 × St := match st.bad with | some _ => ([], st) | none => wordL (skip st.l)
def markL (m l : List UInt8) : St := if m.isPrefixOf l then ⟨l.drop m.length, none⟩ else ⟨l, some l.length⟩
def markS (m : List UInt8) (st : St) : St := match st.bad with | some _ => st | none => markL m (skip st.l)

/-- What stands behind a quote's beginning: the text, or none of it can be read; what is left. -/
def textL : List UInt8 → List UInt8 → Option (List UInt8) × List UInt8
  | [], _ => (none, [])
  | c :: r, acc =>
    if c = 34 then (some acc, r)
    else if c = 92 then
      match r with
      | [] => (none, [])
      | d :: r' => if d = 34 ∨ d = 92 then textL r' (acc ++ [d]) else (none, d :: r')
    else if 32 ≤ c ∧ c ≤ 126 then textL r (acc ++ [c]) else (none, c :: r)
theorem textL_nil (acc : List UInt8) : textL [] acc = (none, []) := by rw [textL.eq_def]
theorem textL_q {c : UInt8} (r acc : List UInt8) (h : c = 34) : textL (c :: r) acc = (some acc, r) := by rw [textL.eq_def]; simp [h]
theorem textL_b0 {c : UInt8} (acc : List UInt8) (h : c = 92) : textL [c] acc = (none, []) := by rw [textL.eq_def]; simp [h]
theorem textL_b1 {c d : UInt8} (r acc : List UInt8) (h : c = 92) (h2 : d = 34 ∨ d = 92) : textL (c :: d :: r) acc = textL r (acc ++ [d]) := by rw [textL.eq_def]; simp [h, h2]
theorem textL_b2 {c d : UInt8} (r acc : List UInt8) (h : c = 92) (h2 : ¬ (d = 34 ∨ d = 92)) : textL (c :: d :: r) acc = (none, d :: r) := by rw [textL.eq_def]; simp [h, h2]
theorem textL_p {c : UInt8} (r acc : List UInt8) (h1 : ¬ c = 34) (h2 : ¬ c = 92) (h : 32 ≤ c ∧ c ≤ 126) : textL (c :: r) acc = textL r (acc ++ [c]) := by rw [textL.eq_def]; simp [h1, h2, h]
theorem textL_n {c : UInt8} (r acc : List UInt8) (h1 : ¬ c = 34) (h2 : ¬ c = 92) (h : ¬ (32 ≤ c ∧ c ≤ 126)) : textL (c :: r) acc = (none, c :: r) := by rw [textL.eq_def]; simp only [h1, h2, h]; simp
def textR : Option (List UInt8) × List UInt8 → List UInt8 × St
  | (some t, r) => (t, ⟨r, none⟩)
  | (none, r) => ([], ⟨r, some r.length⟩)
def textS (st : St) : List UInt8 × St := match (markS [34] st).bad with | some _ => ([], markS [34] st) | none => textR (textL (markS [34] st).l [])

def valD (ds : List UInt8) : Int := ds.foldl (fun n c => 10 * n + ((c.toNat : Int) - 48)) 0
def numBad (sg : Int) (d : List UInt8) : Prop := d.takeWhile isD = [] ∨ (1 < (d.takeWhile isD).length ∧ d.head? = some 48) ∨ (sg < 0 ∧ valD (d.takeWhile isD) = 0)
instance (sg : Int) (d : List UInt8) : Decidable (numBad sg d) := by unfold numBad; infer_instance
def numD (frm : Nat) (sg : Int) (d : List UInt8) : Int × St :=
  if 10 < (d.takeWhile isD).length then (0, ⟨d.drop 10, some frm⟩)
  else if numBad sg d then (sg * valD (d.takeWhile isD), ⟨d.dropWhile isD, some frm⟩)
  else (sg * valD (d.takeWhile isD), ⟨d.dropWhile isD, none⟩)
def numL : List UInt8 → Int × St
  | [] => numD 0 1 []
  | c :: r => if c = 45 then numD (r.length + 1) (-1) r else numD (r.length + 1) 1 (c :: r)
def numberS (st : St) : Int × St := match st.bad with | some _ => (0, st) | none => numL (skip st.l)

structure Pr where
  name : List UInt8
  op : Int
  lo : Int
  hi : Int
  str : List UInt8
/-- 'in LO..HI' behind a name. -/
def inS (name : List UInt8) (st : St) : Pr × St :=
  let a := wordS st
  let b := if a.1 = [105, 110] then a.2 else stopS a.2 st.l.length
  let lo := numberS b
  let c := markS [46, 46] lo.2
  let hi := numberS c
  (⟨name, 1, lo.1, hi.1, []⟩, hi.2)
def predS (st : St) : Pr × St :=
  let a := wordS st
  let b := blanksS a.2
  if b.l.head? = some 61 then
    let t := textS (markS [61] b)
    (⟨a.1, 2, 0, 0, t.1⟩, t.2)
  else if b.l.head? = some 94 then
    let t := textS (markS [94, 61] b)
    (⟨a.1, 3, 0, 0, t.1⟩, t.2)
  else inS a.1 b

/-- What is left is an end of what there was. -/
def Suf (w l : List UInt8) : Prop := l <:+ w
theorem skip_suf (l : List UInt8) : skip l <:+ l := by
  induction l with
  | nil => exact List.suffix_refl _
  | cons c r ih =>
    unfold skip
    split
    · exact ih.trans (List.suffix_cons _ _)
    · exact List.suffix_refl _
theorem skip_head {l : List UInt8} : (skip l).head? ≠ some 32 := by
  induction l with
  | nil => simp [skip]
  | cons c r ih =>
    unfold skip
    split
    · exact ih
    · simpa using ‹_›
theorem skip_of {l : List UInt8} (h : l.head? ≠ some 32) : skip l = l := by
  cases l with
  | nil => rfl
  | cons c r => unfold skip; rw [if_neg (by simpa using h)]
theorem skip_skip (l : List UInt8) : skip (skip l) = skip l := skip_of skip_head
theorem textL_suf (l acc : List UInt8) : (textL l acc).2 <:+ l := by
  induction hn : l.length using Nat.strongRecOn generalizing l acc with
  | _ n ih =>
    match l with
    | [] => rw [textL_nil]; exact List.suffix_refl _
    | c :: r =>
      by_cases h1 : c = 34
      · rw [textL_q _ _ h1]; exact List.suffix_cons _ _
      · by_cases h2 : c = 92
        · match r with
          | [] => rw [textL_b0 _ h2]; exact List.nil_suffix
          | d :: r' =>
            by_cases h3 : d = 34 ∨ d = 92
            · rw [textL_b1 _ _ h2 h3]
              exact (ih r'.length (by simp at hn; omega) r' _ rfl).trans ((List.suffix_cons _ _).trans (List.suffix_cons _ _))
            · rw [textL_b2 _ _ h2 h3]; exact List.suffix_cons _ _
        · by_cases h3 : 32 ≤ c ∧ c ≤ 126
          · rw [textL_p _ _ h1 h2 h3]
            exact (ih r.length (by simp at hn; omega) r _ rfl).trans (List.suffix_cons _ _)
          · rw [textL_n _ _ h1 h2 h3]; exact List.suffix_refl _
/-- A state's parts fit into a text of n bytes. -/
def St.ok (w : List UInt8) (st : St) : Prop := st.l <:+ w ∧ ∀ n, st.bad = some n → n ≤ w.length
theorem St.ok.le {w : List UInt8} {st : St} (h : st.ok w) : st.l.length ≤ w.length := h.1.length_le
theorem blanksS_ok {w : List UInt8} {st : St} (h : st.ok w) : (blanksS st).ok w := by
  unfold blanksS
  split
  · exact h
  · exact ⟨(skip_suf _).trans h.1, fun n hn => by simp at hn⟩
theorem stopS_ok {w : List UInt8} {st : St} {n : Nat} (h : st.ok w) (hn : n ≤ w.length) : (stopS st n).ok w := by
  unfold stopS
  split
  · exact h
  · exact ⟨h.1, fun m hm => by simp at hm; omega⟩
theorem dropWhile_suf (p : UInt8 → Bool) (l : List UInt8) : l.dropWhile p <:+ l := List.dropWhile_suffix p
theorem wordL_ok {w l : List UInt8} (h : l <:+ w) : (wordL l).2.ok w := by
  unfold wordL
  split
  · exact ⟨List.nil_suffix, fun n hn => by simp at hn; omega⟩
  · split
    · exact ⟨(dropWhile_suf _ _).trans ((List.suffix_cons _ _).trans h), fun n hn => by simp at hn⟩
    · refine ⟨h, fun n hn => ?_⟩
      have := h.length_le
      simp at hn this
      omega
theorem wordS_ok {w : List UInt8} {st : St} (h : st.ok w) : (wordS st).2.ok w := by
  unfold wordS
  split
  · exact h
  · exact wordL_ok ((skip_suf _).trans h.1)
theorem markL_ok {w m l : List UInt8} (h : l <:+ w) : (markL m l).ok w := by
  unfold markL
  split
  · exact ⟨(List.drop_suffix _ _).trans h, fun n hn => by simp at hn⟩
  · exact ⟨h, fun n hn => by have := h.length_le; simp at hn; omega⟩
theorem markS_ok {w m : List UInt8} {st : St} (h : st.ok w) : (markS m st).ok w := by
  unfold markS
  split
  · exact h
  · exact markL_ok ((skip_suf _).trans h.1)
theorem textR_ok {w : List UInt8} {x : Option (List UInt8) × List UInt8} (h : x.2 <:+ w) : (textR x).2.ok w := by
  unfold textR
  split
  · exact ⟨h, fun n hn => by simp at hn⟩
  · exact ⟨h, fun n hn => by have := h.length_le; simp at hn this; omega⟩
theorem textS_ok {w : List UInt8} {st : St} (h : st.ok w) : (textS st).2.ok w := by
  unfold textS
  split
  · exact markS_ok h
  · exact textR_ok ((textL_suf _ _).trans (markS_ok h).1)
theorem numD_ok {w d : List UInt8} {frm : Nat} {sg : Int} (h : d <:+ w) (hf : frm ≤ w.length) : (numD frm sg d).2.ok w := by
  unfold numD
  split
  · exact ⟨(List.drop_suffix _ _).trans h, fun n hn => by simp at hn; omega⟩
  · split
    · exact ⟨(dropWhile_suf _ _).trans h, fun n hn => by simp at hn; omega⟩
    · exact ⟨(dropWhile_suf _ _).trans h, fun n hn => by simp at hn⟩
theorem numL_ok {w l : List UInt8} (h : l <:+ w) : (numL l).2.ok w := by
  have hl := h.length_le
  unfold numL
  split
  · exact numD_ok h (by omega)
  · simp at hl
    split
    · exact numD_ok ((List.suffix_cons _ _).trans h) hl
    · exact numD_ok h hl
theorem numberS_ok {w : List UInt8} {st : St} (h : st.ok w) : (numberS st).2.ok w := by
  unfold numberS
  split
  · exact h
  · exact numL_ok ((skip_suf _).trans h.1)
theorem inS_ok {w nm : List UInt8} {st : St} (h : st.ok w) : (inS nm st).2.ok w := by
  unfold inS
  refine numberS_ok (markS_ok (numberS_ok ?_))
  split
  · exact wordS_ok h
  · exact stopS_ok (wordS_ok h) h.le
theorem predS_ok {w : List UInt8} {st : St} (h : st.ok w) : (predS st).2.ok w := by
  unfold predS
  dsimp only
  split
  · exact textS_ok (markS_ok (blanksS_ok (wordS_ok h)))
  · split
    · exact textS_ok (markS_ok (blanksS_ok (wordS_ok h)))
    · exact inS_ok (blanksS_ok (wordS_ok h))
/-- A bad state stays as it is. -/
theorem wordS_bad {st : St} {n : Nat} (h : st.bad = some n) : wordS st = ([], st) := by unfold wordS; rw [h]
theorem markS_bad {m : List UInt8} {st : St} {n : Nat} (h : st.bad = some n) : markS m st = st := by unfold markS; rw [h]
theorem textS_bad {st : St} {n : Nat} (h : st.bad = some n) : textS st = ([], st) := by unfold textS; rw [markS_bad h, h]
theorem numberS_bad {st : St} {n : Nat} (h : st.bad = some n) : numberS st = (0, st) := by unfold numberS; rw [h]
theorem blanksS_bad {st : St} {n : Nat} (h : st.bad = some n) : blanksS st = st := by unfold blanksS; rw [h]
theorem stopS_bad {st : St} {n m : Nat} (h : st.bad = some n) : stopS st m = st := by unfold stopS; rw [h]

/-- The whole parser: predicates with 'and' between them; the place, counted from the end, where it went bad. -/
def parseS : Nat → St → List Pr → List Pr ⊕ Nat
  | 0, st, _ => .inr st.l.length
  | k + 1, st, acc =>
    let x := predS st
    let b := blanksS x.2
    match b.bad with
    | some n => .inr n
    | none =>
      if b.l = [] then .inl (acc ++ [x.1])
      else
        let a := wordS b
        let c := if a.1 = [97, 110, 100] then a.2 else stopS a.2 b.l.length
        match c.bad with
        | some n => .inr n
        | none => parseS k c (acc ++ [x.1])
end Go.Proofs.YthaapijjjgkacaaDoor.Mine
