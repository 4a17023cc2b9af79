/- Texts of one claim, one behind the other, made short by a program. -/
import Derived.Test.YtnmpijbcajclgaaGreatDoorMN3
import Derived.Lib.LazyBuf
set_option linter.unusedSimpArgs false
set_option linter.unusedVariables false
section
namespace Go.Proofs.YtnmpijbcajclgaaGreatDoor.Mine
structure St where
 l : List UInt8
 bad : Option Nat
def skip : List UInt8 → List UInt8
 | [] => []
 | c :: r => if c = 32 then skip r else c :: r
def isL (c : UInt8) : Bool := decide (97 ≤ c ∧ c ≤ 122)
def isD (c : UInt8) : Bool := decide (48 ≤ c ∧ c ≤ 57)
def isA (c : UInt8) : Bool := isL c || isD c
def blanksS (st : St) : St := match st.bad with | some _ => st | none => ⟨skip st.l, none⟩
def stopS (st : St) (n : Nat) : St := match st.bad with | some _ => st | none => ⟨st.l, some n⟩
def wordL : List UInt8 → List UInt8 × St
 | [] => ([], ⟨[], some 0⟩)
 | c :: r => if isL c then (c :: r.takeWhile isA, ⟨r.dropWhile isA, none⟩) else ([], ⟨c :: r, some (r.length + 1)⟩)
def wordS (st : St) : List UInt8 × St := match st.bad with | some _ => ([], st) | none => wordL (skip st.l)
def markL (m l : List UInt8) : St := if m.isPrefixOf l then ⟨l.drop m.length, none⟩ else ⟨l, some l.length⟩
def markS (m : List UInt8) (st : St) : St := match st.bad with | some _ => st | none => markL m (skip st.l)
def textL : List UInt8 → List UInt8 → Option (List UInt8) × List UInt8
 | [], _ => (none, [])
 | c :: r, acc =>
  if c = 34 then (some acc, r)
  else if c = 92 then
   match r with
   | [] => (none, [])
   | d :: r' => if d = 34 ∨ d = 92 then textL r' (acc ++ [d]) else (none, d :: r')
  else if 32 ≤ c ∧ c ≤ 126 then textL r (acc ++ [c]) else (none, c :: r)
theorem textL_nil (acc : List UInt8) : textL [] acc = (none, []) := by rw [textL.eq_def]
theorem textL_q {c : UInt8} (r acc : List UInt8) (h : c = 34) : textL (c :: r) acc = (some acc, r) := by rw [textL.eq_def]; simp [h]
theorem textL_b0 {c : UInt8} (acc : List UInt8) (h : c = 92) : textL [c] acc = (none, []) := by rw [textL.eq_def]; simp [h]
theorem textL_b1 {c d : UInt8} (r acc : List UInt8) (h : c = 92) (h2 : d = 34 ∨ d = 92) : textL (c :: d :: r) acc = textL r (acc ++ [d]) := by rw [textL.eq_def]; simp [h, h2]
theorem textL_b2 {c d : UInt8} (r acc : List UInt8) (h : c = 92) (h2 : ¬ (d = 34 ∨ d = 92)) : textL (c :: d :: r) acc = (none, d :: r) := by rw [textL.eq_def]; simp [h, h2]
theorem textL_p {c : UInt8} (r acc : List UInt8) (h1 : ¬ c = 34) (h2 : ¬ c = 92) (h : 32 ≤ c ∧ c ≤ 126) : textL (c :: r) acc = textL r (acc ++ [c]) := by rw [textL.eq_def]; simp [h1, h2, h]
theorem textL_n {c : UInt8} (r acc : List UInt8) (h1 : ¬ c = 34) (h2 : ¬ c = 92) (h : ¬ (32 ≤ c ∧ c ≤ 126)) : textL (c :: r) acc = (none, c :: r) := by rw [textL.eq_def]; simp only [h1, h2, h]; simp
def textR : Option (List UInt8) × List UInt8 → List UInt8 × St
 | (some t, r) => (t, ⟨r, none⟩)
 | (none, r) => ([], ⟨r, some r.length⟩)
def textS (st : St) : List UInt8 × St := match (markS [34] st).bad with | some _ => ([], markS [34] st) | none => textR (textL (markS [34] st).l [])
def valD (ds : List UInt8) : Int := ds.foldl (fun n c => 10 * n + ((c.toNat : Int) - 48)) 0
def numBad (sg : Int) (d : List UInt8) : Prop := d.takeWhile isD = [] ∨ (1 < (d.takeWhile isD).length ∧ d.head? = some 48) ∨ (sg < 0 ∧ valD (d.takeWhile isD) = 0)
instance (sg : Int) (d : List UInt8) : Decidable (numBad sg d) := by unfold numBad; infer_instance
def numD (frm : Nat) (sg : Int) (d : List UInt8) : Int × St :=
 if 10 < (d.takeWhile isD).length then (0, ⟨d.drop 10, some frm⟩)
 else if numBad sg d then (sg * valD (d.takeWhile isD), ⟨d.dropWhile isD, some frm⟩)
 else (sg * valD (d.takeWhile isD), ⟨d.dropWhile isD, none⟩)
def numL : List UInt8 → Int × St
 | [] => numD 0 1 []
 | c :: r => if c = 45 then numD (r.length + 1) (-1) r else numD (r.length + 1) 1 (c :: r)
def numberS (st : St) : Int × St := match st.bad with | some _ => (0, st) | none => numL (skip st.l)
structure Pr where
 name : List UInt8
 op : Int
 lo : Int
 hi : Int
 str : List UInt8
def inS (name : List UInt8) (st : St) : Pr × St :=
 let a := wordS st
 let b := if a.1 = [105, 110] then a.2 else stopS a.2 st.l.length
 let lo := numberS b
 let c := markS [46, 46] lo.2
 let hi := numberS c
 (⟨name, 1, lo.1, hi.1, []⟩, hi.2)
def predS (st : St) : Pr × St :=
 let a := wordS st
 let b := blanksS a.2
 if b.l.head? = some 61 then
  let t := textS (markS [61] b)
  (⟨a.1, 2, 0, 0, t.1⟩, t.2)
 else if b.l.head? = some 94 then
  let t := textS (markS [94, 61] b)
  (⟨a.1, 3, 0, 0, t.1⟩, t.2)
 else inS a.1 b
theorem skip_suf (l : List UInt8) : skip l <:+ l := by
 induction l with
 | nil => exact List.suffix_refl _
 | cons c r ih =>
  unfold skip
  split
  ·
   exact ih.trans (List.suffix_cons _ _)
  ·
   exact List.suffix_refl _
theorem textL_suf (l acc : List UInt8) : (textL l acc).2 <:+ l := by
 induction hn : l.length using Nat.strongRecOn generalizing l acc with
 | _ n ih =>
  match l with
  | [] => rw [textL_nil]; exact List.suffix_refl _
  | c :: r =>
   by_cases h1 : c = 34
   ·
    rw [textL_q _ _ h1]; exact List.suffix_cons _ _
   ·
    by_cases h2 : c = 92
    ·
     match r with
     | [] => rw [textL_b0 _ h2]; exact List.nil_suffix
     | d :: r' =>
      by_cases h3 : d = 34 ∨ d = 92
      ·
       rw [textL_b1 _ _ h2 h3]
       exact (ih r'.length (by simp at hn; omega) r' _ rfl).trans ((List.suffix_cons _ _).trans (List.suffix_cons _ _))
      ·
       rw [textL_b2 _ _ h2 h3]; exact List.suffix_cons _ _
    ·
     by_cases h3 : 32 ≤ c ∧ c ≤ 126
     ·
      rw [textL_p _ _ h1 h2 h3]
      exact (ih r.length (by simp at hn; omega) r _ rfl).trans (List.suffix_cons _ _)
     ·
      rw [textL_n _ _ h1 h2 h3]; exact List.suffix_refl _
def St.ok (w : List UInt8) (st : St) : Prop := st.l <:+ w ∧ ∀ n, st.bad = some n → n ≤ w.length
theorem St.ok.le {w : List UInt8} {st : St} (h : st.ok w) : st.l.length ≤ w.length := h.1.length_le
theorem blanksS_ok {w : List UInt8} {st : St} (h : st.ok w) : (blanksS st).ok w := by
 unfold blanksS
 split
 ·
  exact h
 ·
  exact ⟨(skip_suf _).trans h.1, fun n hn => by simp at hn⟩
theorem stopS_ok {w : List UInt8} {st : St} {n : Nat} (h : st.ok w) (hn : n ≤ w.length) : (stopS st n).ok w := by
 unfold stopS
 split
 ·
  exact h
 ·
  exact ⟨h.1, fun m hm => by simp at hm; omega⟩
theorem dropWhile_suf (p : UInt8 → Bool) (l : List UInt8) : l.dropWhile p <:+ l := List.dropWhile_suffix p
theorem wordL_ok {w l : List UInt8} (h : l <:+ w) : (wordL l).2.ok w := by
 unfold wordL
 split
 ·
  exact ⟨List.nil_suffix, fun n hn => by simp at hn; omega⟩
 ·
  split
  ·
   exact ⟨(dropWhile_suf _ _).trans ((List.suffix_cons _ _).trans h), fun n hn => by simp at hn⟩
  ·
   refine ⟨h, fun n hn => ?_⟩
   have := h.length_le
   simp at hn this
   omega
theorem wordS_ok {w : List UInt8} {st : St} (h : st.ok w) : (wordS st).2.ok w := by
 unfold wordS
 split
 ·
  exact h
 ·
  exact wordL_ok ((skip_suf _).trans h.1)
theorem markL_ok {w m l : List UInt8} (h : l <:+ w) : (markL m l).ok w := by
 unfold markL
 split
 ·
  exact ⟨(List.drop_suffix _ _).trans h, fun n hn => by simp at hn⟩
 ·
  exact ⟨h, fun n hn => by have := h.length_le; simp at hn; omega⟩
theorem markS_ok {w m : List UInt8} {st : St} (h : st.ok w) : (markS m st).ok w := by
 unfold markS
 split
 ·
  exact h
 ·
  exact markL_ok ((skip_suf _).trans h.1)
theorem textR_ok {w : List UInt8} {x : Option (List UInt8) × List UInt8} (h : x.2 <:+ w) : (textR x).2.ok w := by
 unfold textR
 split
 ·
  exact ⟨h, fun n hn => by simp at hn⟩
 ·
  exact ⟨h, fun n hn => by have := h.length_le; simp at hn this; omega⟩
theorem textS_ok {w : List UInt8} {st : St} (h : st.ok w) : (textS st).2.ok w := by
 unfold textS
 split
 ·
  exact markS_ok h
 ·
  exact textR_ok ((textL_suf _ _).trans (markS_ok h).1)
theorem numD_ok {w d : List UInt8} {frm : Nat} {sg : Int} (h : d <:+ w) (hf : frm ≤ w.length) : (numD frm sg d).2.ok w := by
 unfold numD
 split
 ·
  exact ⟨(List.drop_suffix _ _).trans h, fun n hn => by simp at hn; omega⟩
 ·
  split
  ·
   exact ⟨(dropWhile_suf _ _).trans h, fun n hn => by simp at hn; omega⟩
  ·
   exact ⟨(dropWhile_suf _ _).trans h, fun n hn => by simp at hn⟩
theorem numL_ok {w l : List UInt8} (h : l <:+ w) : (numL l).2.ok w := by
 have hl := h.length_le
 unfold numL
 split
 ·
  exact numD_ok h (by omega)
 ·
  simp at hl
  split
  ·
   exact numD_ok ((List.suffix_cons _ _).trans h) hl
  ·
   exact numD_ok h hl
theorem numberS_ok {w : List UInt8} {st : St} (h : st.ok w) : (numberS st).2.ok w := by
 unfold numberS
 split
 ·
  exact h
 ·
  exact numL_ok ((skip_suf _).trans h.1)
theorem inS_ok {w nm : List UInt8} {st : St} (h : st.ok w) : (inS nm st).2.ok w := by
 unfold inS
 refine numberS_ok (markS_ok (numberS_ok ?_))
 split
 ·
  exact wordS_ok h
 ·
  exact stopS_ok (wordS_ok h) h.le
theorem predS_ok {w : List UInt8} {st : St} (h : st.ok w) : (predS st).2.ok w := by
 unfold predS
 dsimp only
 split
 ·
  exact textS_ok (markS_ok (blanksS_ok (wordS_ok h)))
 ·
  split
  ·
   exact textS_ok (markS_ok (blanksS_ok (wordS_ok h)))
  ·
   exact inS_ok (blanksS_ok (wordS_ok h))
theorem wordS_bad {st : St} {n : Nat} (h : st.bad = some n) : wordS st = ([], st) := by unfold wordS; rw [h]
theorem markS_bad {m : List UInt8} {st : St} {n : Nat} (h : st.bad = some n) : markS m st = st := by unfold markS; rw [h]
theorem textS_bad {st : St} {n : Nat} (h : st.bad = some n) : textS st = ([], st) := by unfold textS; rw [markS_bad h, h]
theorem stopS_bad {st : St} {n m : Nat} (h : st.bad = some n) : stopS st m = st := by unfold stopS; rw [h]
def parseS : Nat → St → List Pr → List Pr ⊕ Nat
 | 0, st, _ => .inr st.l.length
 | k + 1, st, acc =>
  let x := predS st
  let b := blanksS x.2
  match b.bad with
  | some n => .inr n
  | none =>
   if b.l = [] then .inl (acc ++ [x.1])
   else
    let a := wordS b
    let c := if a.1 = [97, 110, 100] then a.2 else stopS a.2 b.l.length
    match c.bad with
    | some n => .inr n
    | none => parseS k c (acc ++ [x.1])
end Go.Proofs.YtnmpijbcajclgaaGreatDoor.Mine
end
section
namespace Go.Proofs.YtnmpijbcajclgaaGreatDoor.Mine
open Go.RowKit YtnmpijbcajclgaaGreatDoorW.PrintWords YtnmpijbcajclgaaGreatDoorW.PrintLast YtnmpijbcajclgaaGreatDoorW.PrintMore
open PNodeAlone
def numsB (l : List UInt8) : List Int := l.map fun b => (b.toNat : Int)
theorem numsB_snoc (l : List UInt8) (c : UInt8) : numsB (l ++ [c]) = numsB l ++ [(c.toNat : Int)] := by simp [numsB]
theorem str_numsB (l : List UInt8) : strOfNums (numsB l) = ⟨l.toArray⟩ := Lib.Lz.strOfNums_map l
def dropB (s : ByteArray) (i : Nat) : List UInt8 := s.data.toList.drop i
theorem dropB_nil {s : ByteArray} {i : Nat} (h : s.size ≤ i) : dropB s i = [] := List.drop_eq_nil_of_le (by simpa using h)
theorem dropB_cons {s : ByteArray} {i : Nat} (h : i < s.size) : dropB s i = s[i]'h :: dropB s (i + 1) := by
 unfold dropB
 rw [List.drop_eq_getElem_cons (by simpa using h)]
 rfl
theorem dropB_len (s : ByteArray) (i : Nat) : (dropB s i).length = s.size - i := by simp [dropB]
theorem c_eq {c : UInt8} {n : Nat} (hn : n < 256) : ((c.toNat : Int) == (n : Int)) = decide (c = UInt8.ofNat n) := by
 rw [Bool.eq_iff_iff]
 simp only [beq_iff_eq, decide_eq_true_eq]
 constructor
 ·
  intro h
  have h2 : c.toNat = n := by omega
  rw [← h2]; simp
 ·
  rintro rfl
  simp [Nat.mod_eq_of_lt hn]
def TextPost (w0 w : World) (g : Nat) (s : ByteArray) (l : List UInt8) (e : Ending) (w' : World) : Prop :=
 (∃ t r, textL l [] = (some t, r) ∧ e = .returned (.string ⟨t.toArray⟩) ∧ IsS254 w0 w' g s ((s.size - r.length : Nat) : Int) (-1) ∧ Below w0.heap.size w0 w' ∧ KeepBut w w' g none)
 ∨ (∃ r, textL l [] = (none, r) ∧ e = .returned (.string ⟨#[]⟩) ∧ IsS254 w0 w' g s ((s.size - r.length : Nat) : Int) ((s.size - r.length : Nat) : Int) ∧ Below w0.heap.size w0 w' ∧ KeepBut w w' g none)
set_option maxHeartbeats 4000000 in
set_option maxRecDepth 100000 in
theorem text_calls (k : Nat) (g : Nat) (s : ByteArray) (at0 at1 : Nat) (w0 w : World) (hI : IsS254 w0 w g s at0 (-1)) (hB : Below w0.heap.size w0 w) (hs : s.size ≤ 1000)
 (hm : filter_parser_mark.f k s at0 (-1) (⟨#[34]⟩ : ByteArray) = some (s, (at1 : Int), -1)) (hf : at1 ≤ s.size) :
 Calls Tryz.prog 203 #[.pointer (some ⟨g, 0, none⟩)] w (TextPost w0 w g s (dropB s at1)) := by
 have HI := mk0 hI
 have HB := mk0 hB
 have HK := mk0 (KeepBut.refl w g none)
 have HM := mk0 hm
 have HS := mk0 hs
 have HL := mk0 hB.size
 clear hI hB hm
 go_enter Tryz.func203, Tryz.ntmps203
 go_wp2_with (go_at_call 202; (with_reducible refine (filter_parser_mark.calls k g s at0 (-1) (⟨#[34]⟩ : ByteArray) s at1 (-1) w0 _ ?side1 ?side2 HM.out).mono ?_); (case side1 => (repeat (first | (with_reducible first | exact HI.out | apply IsS254.alloc | apply IsS254.drewN | apply IsS254.drew | apply IsS254.set_0 | apply IsS254.set_1 | apply IsS254.set_2) | exact HI.out))); (case side2 => (repeat (first | (with_reducible first | exact HB.out | apply below_alloc | apply pw_below_drewN | apply below_drew1 | refine below_set ?_ (IsS254.ge HI.out)) | exact HB.out))); rintro e w2 ⟨rfl, hi, hb, hk⟩; have n0_ := mk0 hi; have n1_ := mk0 hb; have n2_ := mk0 (KeepBut.trans (by (repeat (first | (with_reducible first | exact HK.out | apply KeepBut.set_ | apply keep_drewN | apply keep_drew | apply keep_alloc) | exact HK.out))) hk (Or.inl rfl)); clear HI HB HK hi hb hk; have HI := n0_; have HB := n1_; have HK := n2_; clear n0_ n1_ n2_; obtain ⟨HG, hg⟩ := HI.out; have hc0 := cellS254_0 HG; have hc1 := cellS254_1 HG; have hc2 := cellS254_2 HG; have hf0 := blk_frozen HG 0; have hf1 := blk_frozen HG 1; have hf2 := blk_frozen HG 2; clear HG hg)
 clear hc0 hc1 hc2 hf0 hf1 hf2
 go_loopg [3] (s.size + 2) (fun n v3 wr => ∃ (acc : List UInt8) (at_ : Nat) (bad : Int), Aside0 (at_ ≤ s.size ∧ ((bad = -1 ∧ s.size + 2 ≤ at_ + n ∧ acc.length ≤ at_ ∧ textL (dropB s at_) acc = textL (dropB s at1) [] ∧ Kd.R (Kd.int .u8) 5 wr w.heap.size (fun _ => True) v3 (numsB acc)) ∨ (bad = at_ ∧ 1 ≤ n ∧ textL (dropB s at1) [] = (none, dropB s at_)))) ∧ Aside0 (IsS254 w0 wr g s at_ bad) ∧ Aside0 (KeepBut w wr g none) ∧ Aside0 (Below w0.heap.size w0 wr))
 case atStart => exact ⟨[], at1, -1, ⟨hf, Or.inl ⟨rfl, by omega, by simp, rfl, Kd.R_nil _ _ _ _ _⟩⟩, HI, HK, HB⟩
 case round =>
  clear HI HK HB HM
  obtain ⟨acc, at_, bad, HA, HI, HK, HB⟩ := hrel
  have hlb : at_ ≤ s.size := HA.out.1
  rcases HA.out.2 with ⟨rfl, hn, hl, ht, ho⟩ | ⟨rfl, hn, ht⟩
  ·
   have HA2 := mk0 ht
   have HA1 := mk0 hl
   have HO := mk0 ho
   clear ht hl ho HA
   by_cases hlt : at_ < s.size
   ·
    obtain ⟨c, hc⟩ : ∃ c, s[at_]'hlt = c := ⟨_, rfl⟩
    have hx : ∀ h : at_ < s.size, s[at_]'h = c := fun _ => hc
    have hd := dropB_cons hlt
    rw [hc] at hd
    have HD := mk0 hd
    clear hc hd
    have q1 := eq_true (show ((at_ : Int) < (s.size : Int)) by omega)
    have q2 := eq_true (show (0 : Int) ≤ (at_ : Int) by omega)
    have q3 := decide_eq_false (show ¬ ((s.size : Int) ≤ (at_ : Int)) by omega)
    obtain ⟨HG, hg⟩ := HI.out
    have hc0 := cellS254_0 HG
    have hc1 := cellS254_1 HG
    have hc2 := cellS254_2 HG
    have hf0 := blk_frozen HG 0
    have hf1 := blk_frozen HG 1
    have hf2 := blk_frozen HG 2
    clear HG hg
    by_cases h34 : c = 34
    ·
     have e34 : ((c.toNat : Int) == 34) = true := by rw [h34]; rfl
     have HC := mk0 h34
     clear h34
     have hcv := fun m => own_string (P := Tryz.prog) Tryz.underlying263 Tryz.underlying5 Tryz.underlying9 (Kd.own_of_R (show Kd.R (Kd.int .u8) 5 ((wr.drewN m).setCell ⟨g, 1, none⟩ (.int .i64 ((at_ : Int) + 1))) w.heap.size (fun _ => True) u3 (numsB acc) from Kd.R_mono (Kd.R_far (p := ⟨g, 1, none⟩) (IsS254.apart (by (repeat (first | (with_reducible first | exact HI.out | apply IsS254.alloc | apply IsS254.drewN | apply IsS254.drew | apply IsS254.set_0 | apply IsS254.set_1 | apply IsS254.set_2) | exact HI.out)) : IsS254 w0 _ g s _ _) (by (with_reducible repeat (first | apply Kd.R_alloc | apply Kd.R_drewN | apply Kd.R_drew)); exact HO.out) (by decide)) (fun _ hk => hk.2) (.int .i64 ((at_ : Int) + 1))) (fun _ _ => trivial)))
     go_wp2
     repeat (go_quiet (fail); try go_wp2)
     go_ret
     exact Or.inl ⟨acc, dropB s (at_ + 1), by rw [← HA2.out, HD.out, textL_q _ _ HC.out], by rw [str_numsB]; rfl, by rw [dropB_len, show ((s.size - (s.size - (at_ + 1)) : Nat) : Int) = (at_ : Int) + 1 by omega]; (repeat (first | (with_reducible first | exact HI.out | apply IsS254.alloc | apply IsS254.drewN | apply IsS254.drew | apply IsS254.set_0 | apply IsS254.set_1 | apply IsS254.set_2) | exact HI.out)), by (repeat (first | (with_reducible first | exact HB.out | apply below_alloc | apply pw_below_drewN | apply below_drew1 | refine below_set ?_ (IsS254.ge HI.out)) | exact HB.out)), by (repeat (first | (with_reducible first | exact HK.out | apply KeepBut.set_ | apply keep_drewN | apply keep_drew | apply keep_alloc) | exact HK.out))⟩
    ·
     have e34 : ((c.toNat : Int) == 34) = false := by rw [show (34 : Int) = ((34 : Nat) : Int) from rfl, c_eq (by decide)]; simpa using h34
     by_cases h92 : c = 92
     ·
      have e92 : ((c.toNat : Int) == 92) = true := by rw [h92]; rfl
      have HC := mk0 (show c = 92 from h92)
      clear h34 h92
      by_cases hlt1 : at_ + 1 < s.size
      ·
       obtain ⟨d, hd1⟩ : ∃ d, s[at_ + 1]'hlt1 = d := ⟨_, rfl⟩
       have hx1 : ∀ h : at_ + 1 < s.size, s[at_ + 1]'h = d := fun _ => hd1
       have hd2 := dropB_cons hlt1
       rw [hd1] at hd2
       have HD1 := mk0 hd2
       clear hd1 hd2
       have p1 := eq_true (show ((at_ : Int) + 1 < (s.size : Int)) by omega)
       have p2 := eq_true (show (0 : Int) ≤ (at_ : Int) + 1 by omega)
       have p3 := decide_eq_false (show ¬ ((s.size : Int) ≤ (at_ : Int) + 1) by omega)
       have p4 : ((at_ : Int) + 1).toNat = at_ + 1 := by omega
       by_cases d34 : d = 34
       ·
        have f34 : ((d.toNat : Int) != 34) = false := by rw [d34]; rfl
        have HC2 := mk0 (show textL (dropB s at_) acc = textL (dropB s (at_ + 2)) (acc ++ [d]) by rw [HD.out, HD1.out, textL_b1 _ _ HC.out (Or.inl d34)])
        clear d34
        go_wp2_with ((with_reducible refine gate_builtin (b := .append) (xs := #[.tmp 115, .tmp 117]) rfl ?_); at_builtin; refine Kd.R_append (Kd.int .u8) w.heap.size rfl (.tmp 115) (.tmp 117) 263 5 (.int .u8 0) 1 rfl Tryz.underlying263 info5 rfl (by decide) (by omega) u3 (numsB acc) (d.toNat : Int) [.int .u8 (d.toNat : Int)] (fun _ => True) (fun _ => False) rfl ?aX ?aP (fun _ hk => hk.elim) ?aF ?aO (Below.refl _ _) ?aS ?aL ?_; (case aX => first | rfl | (go_simp; done) | (go_simp; rfl)); (case aP => exact rfl); (case aF => exact (fun _ _ => trivial)); (case aO => exact (by (with_reducible repeat (first | apply Kd.R_alloc | apply Kd.R_drewN | apply Kd.R_drew)); exact (Kd.R_mono (Kd.R_far (p := ⟨g, 1, none⟩) (IsS254.apart (by (repeat (first | (with_reducible first | exact HI.out | apply IsS254.alloc | apply IsS254.drewN | apply IsS254.drew | apply IsS254.set_0 | apply IsS254.set_1 | apply IsS254.set_2) | exact HI.out)) : IsS254 w0 _ g s _ _) (by (with_reducible repeat (first | apply Kd.R_alloc | apply Kd.R_drewN | apply Kd.R_drew)); exact HO.out) (by decide)) (fun _ hk => hk.2) (_)) (fun _ _ => trivial)))); (case aS => exact (keep_size (w := w) (g := g) (row := none) (by (repeat (first | (with_reducible first | exact HK.out | apply KeepBut.set_ | apply keep_drewN | apply keep_drew | apply keep_alloc) | exact HK.out))))); (case aL => have := HA1.out; have := HS.out; simp [numsB]; omega); intro v3 w3 ho hb hg hat; rw [← numsB_snoc] at ho; have n0_ := mk0 (IsS254.grown (by (repeat (first | (with_reducible first | exact HI.out | apply IsS254.alloc | apply IsS254.drewN | apply IsS254.drew | apply IsS254.set_0 | apply IsS254.set_1 | apply IsS254.set_2) | exact HI.out))) hg (IsS254.own_ne HI.out HO.out (by decide))); have n1_ := mk0 (below_weaken (by (repeat (first | (with_reducible first | exact HB.out | apply below_alloc | apply pw_below_drewN | apply below_drew1 | refine below_set ?_ (IsS254.ge HI.out)) | exact HB.out))) HL.out hb); have n2_ := mk0 (KeepBut.trans (by (repeat (first | (with_reducible first | exact HK.out | apply KeepBut.set_ | apply keep_drewN | apply keep_drew | apply keep_alloc) | exact HK.out))) (KeepBut.of_grown hg g) (Kd.R_base2 HO.out)); have n3_ := mk0 ho; clear HI HB HK HO ho hb hg hat; have HI := n0_; have HB := n1_; have HK := n2_; have HO := n3_; clear n0_ n1_ n2_ n3_; obtain ⟨HG, hg⟩ := HI.out; have hc0 := cellS254_0 HG; have hc1 := cellS254_1 HG; have hc2 := cellS254_2 HG; have hf0 := blk_frozen HG 0; have hf1 := blk_frozen HG 1; have hf2 := blk_frozen HG 2; clear HG hg)
        repeat (go_quiet (fail); try go_wp2_with ((with_reducible refine gate_builtin (b := .append) (xs := #[.tmp 115, .tmp 117]) rfl ?_); at_builtin; refine Kd.R_append (Kd.int .u8) w.heap.size rfl (.tmp 115) (.tmp 117) 263 5 (.int .u8 0) 1 rfl Tryz.underlying263 info5 rfl (by decide) (by omega) u3 (numsB acc) (d.toNat : Int) [.int .u8 (d.toNat : Int)] (fun _ => True) (fun _ => False) rfl ?aX ?aP (fun _ hk => hk.elim) ?aF ?aO (Below.refl _ _) ?aS ?aL ?_; (case aX => first | rfl | (go_simp; done) | (go_simp; rfl)); (case aP => exact rfl); (case aF => exact (fun _ _ => trivial)); (case aO => exact (by (with_reducible repeat (first | apply Kd.R_alloc | apply Kd.R_drewN | apply Kd.R_drew)); exact (Kd.R_mono (Kd.R_far (p := ⟨g, 1, none⟩) (IsS254.apart (by (repeat (first | (with_reducible first | exact HI.out | apply IsS254.alloc | apply IsS254.drewN | apply IsS254.drew | apply IsS254.set_0 | apply IsS254.set_1 | apply IsS254.set_2) | exact HI.out)) : IsS254 w0 _ g s _ _) (by (with_reducible repeat (first | apply Kd.R_alloc | apply Kd.R_drewN | apply Kd.R_drew)); exact HO.out) (by decide)) (fun _ hk => hk.2) (_)) (fun _ _ => trivial)))); (case aS => exact (keep_size (w := w) (g := g) (row := none) (by (repeat (first | (with_reducible first | exact HK.out | apply KeepBut.set_ | apply keep_drewN | apply keep_drew | apply keep_alloc) | exact HK.out))))); (case aL => have := HA1.out; have := HS.out; simp [numsB]; omega); intro v3 w3 ho hb hg hat; rw [← numsB_snoc] at ho; have n0_ := mk0 (IsS254.grown (by (repeat (first | (with_reducible first | exact HI.out | apply IsS254.alloc | apply IsS254.drewN | apply IsS254.drew | apply IsS254.set_0 | apply IsS254.set_1 | apply IsS254.set_2) | exact HI.out))) hg (IsS254.own_ne HI.out HO.out (by decide))); have n1_ := mk0 (below_weaken (by (repeat (first | (with_reducible first | exact HB.out | apply below_alloc | apply pw_below_drewN | apply below_drew1 | refine below_set ?_ (IsS254.ge HI.out)) | exact HB.out))) HL.out hb); have n2_ := mk0 (KeepBut.trans (by (repeat (first | (with_reducible first | exact HK.out | apply KeepBut.set_ | apply keep_drewN | apply keep_drew | apply keep_alloc) | exact HK.out))) (KeepBut.of_grown hg g) (Kd.R_base2 HO.out)); have n3_ := mk0 ho; clear HI HB HK HO ho hb hg hat; have HI := n0_; have HB := n1_; have HK := n2_; have HO := n3_; clear n0_ n1_ n2_ n3_; obtain ⟨HG, hg⟩ := HI.out; have hc0 := cellS254_0 HG; have hc1 := cellS254_1 HG; have hc2 := cellS254_2 HG; have hf0 := blk_frozen HG 0; have hf1 := blk_frozen HG 1; have hf2 := blk_frozen HG 2; clear HG hg))
        go_roundg (gk - 1)
        case measure => omega
        case rel => exact ⟨acc ++ [d], at_ + 2, -1, ⟨by omega, Or.inl ⟨rfl, by omega, by have := HA1.out; simp; omega, HC2.out.symm.trans HA2.out, Kd.R_mono (Kd.R_far (p := ⟨g, 1, none⟩) (IsS254.apart (by (repeat (first | (with_reducible first | exact HI.out | apply IsS254.alloc | apply IsS254.drewN | apply IsS254.drew | apply IsS254.set_0 | apply IsS254.set_1 | apply IsS254.set_2) | exact HI.out)) : IsS254 w0 _ g s _ _) (by (with_reducible repeat (first | apply Kd.R_alloc | apply Kd.R_drewN | apply Kd.R_drew)); exact HO.out) (by decide)) (fun _ hk => hk.2) (_)) (fun _ _ => trivial)⟩⟩, ⟨by rw [show ((at_ + 2 : Nat) : Int) = (at_ : Int) + 1 + 1 by omega]; (repeat (first | (with_reducible first | exact HI.out | apply IsS254.alloc | apply IsS254.drewN | apply IsS254.drew | apply IsS254.set_0 | apply IsS254.set_1 | apply IsS254.set_2) | exact HI.out))⟩, ⟨by (repeat (first | (with_reducible first | exact HK.out | apply KeepBut.set_ | apply keep_drewN | apply keep_drew | apply keep_alloc) | exact HK.out))⟩, ⟨by (repeat (first | (with_reducible first | exact HB.out | apply below_alloc | apply pw_below_drewN | apply below_drew1 | refine below_set ?_ (IsS254.ge HI.out)) | exact HB.out))⟩⟩
       ·
        have f34 : ((d.toNat : Int) != 34) = true := by rw [bne, show (34 : Int) = ((34 : Nat) : Int) from rfl, c_eq (by decide)]; simpa using d34
        by_cases d92 : d = 92
        ·
         have f92 : ((d.toNat : Int) != 92) = false := by rw [d92]; rfl
         have HC2 := mk0 (show textL (dropB s at_) acc = textL (dropB s (at_ + 2)) (acc ++ [d]) by rw [HD.out, HD1.out, textL_b1 _ _ HC.out (Or.inr d92)])
         clear d34 d92
         go_wp2_with ((with_reducible refine gate_builtin (b := .append) (xs := #[.tmp 115, .tmp 117]) rfl ?_); at_builtin; refine Kd.R_append (Kd.int .u8) w.heap.size rfl (.tmp 115) (.tmp 117) 263 5 (.int .u8 0) 1 rfl Tryz.underlying263 info5 rfl (by decide) (by omega) u3 (numsB acc) (d.toNat : Int) [.int .u8 (d.toNat : Int)] (fun _ => True) (fun _ => False) rfl ?aX ?aP (fun _ hk => hk.elim) ?aF ?aO (Below.refl _ _) ?aS ?aL ?_; (case aX => first | rfl | (go_simp; done) | (go_simp; rfl)); (case aP => exact rfl); (case aF => exact (fun _ _ => trivial)); (case aO => exact (by (with_reducible repeat (first | apply Kd.R_alloc | apply Kd.R_drewN | apply Kd.R_drew)); exact (Kd.R_mono (Kd.R_far (p := ⟨g, 1, none⟩) (IsS254.apart (by (repeat (first | (with_reducible first | exact HI.out | apply IsS254.alloc | apply IsS254.drewN | apply IsS254.drew | apply IsS254.set_0 | apply IsS254.set_1 | apply IsS254.set_2) | exact HI.out)) : IsS254 w0 _ g s _ _) (by (with_reducible repeat (first | apply Kd.R_alloc | apply Kd.R_drewN | apply Kd.R_drew)); exact HO.out) (by decide)) (fun _ hk => hk.2) (_)) (fun _ _ => trivial)))); (case aS => exact (keep_size (w := w) (g := g) (row := none) (by (repeat (first | (with_reducible first | exact HK.out | apply KeepBut.set_ | apply keep_drewN | apply keep_drew | apply keep_alloc) | exact HK.out))))); (case aL => have := HA1.out; have := HS.out; simp [numsB]; omega); intro v3 w3 ho hb hg hat; rw [← numsB_snoc] at ho; have n0_ := mk0 (IsS254.grown (by (repeat (first | (with_reducible first | exact HI.out | apply IsS254.alloc | apply IsS254.drewN | apply IsS254.drew | apply IsS254.set_0 | apply IsS254.set_1 | apply IsS254.set_2) | exact HI.out))) hg (IsS254.own_ne HI.out HO.out (by decide))); have n1_ := mk0 (below_weaken (by (repeat (first | (with_reducible first | exact HB.out | apply below_alloc | apply pw_below_drewN | apply below_drew1 | refine below_set ?_ (IsS254.ge HI.out)) | exact HB.out))) HL.out hb); have n2_ := mk0 (KeepBut.trans (by (repeat (first | (with_reducible first | exact HK.out | apply KeepBut.set_ | apply keep_drewN | apply keep_drew | apply keep_alloc) | exact HK.out))) (KeepBut.of_grown hg g) (Kd.R_base2 HO.out)); have n3_ := mk0 ho; clear HI HB HK HO ho hb hg hat; have HI := n0_; have HB := n1_; have HK := n2_; have HO := n3_; clear n0_ n1_ n2_ n3_; obtain ⟨HG, hg⟩ := HI.out; have hc0 := cellS254_0 HG; have hc1 := cellS254_1 HG; have hc2 := cellS254_2 HG; have hf0 := blk_frozen HG 0; have hf1 := blk_frozen HG 1; have hf2 := blk_frozen HG 2; clear HG hg)
         repeat (go_quiet (fail); try go_wp2_with ((with_reducible refine gate_builtin (b := .append) (xs := #[.tmp 115, .tmp 117]) rfl ?_); at_builtin; refine Kd.R_append (Kd.int .u8) w.heap.size rfl (.tmp 115) (.tmp 117) 263 5 (.int .u8 0) 1 rfl Tryz.underlying263 info5 rfl (by decide) (by omega) u3 (numsB acc) (d.toNat : Int) [.int .u8 (d.toNat : Int)] (fun _ => True) (fun _ => False) rfl ?aX ?aP (fun _ hk => hk.elim) ?aF ?aO (Below.refl _ _) ?aS ?aL ?_; (case aX => first | rfl | (go_simp; done) | (go_simp; rfl)); (case aP => exact rfl); (case aF => exact (fun _ _ => trivial)); (case aO => exact (by (with_reducible repeat (first | apply Kd.R_alloc | apply Kd.R_drewN | apply Kd.R_drew)); exact (Kd.R_mono (Kd.R_far (p := ⟨g, 1, none⟩) (IsS254.apart (by (repeat (first | (with_reducible first | exact HI.out | apply IsS254.alloc | apply IsS254.drewN | apply IsS254.drew | apply IsS254.set_0 | apply IsS254.set_1 | apply IsS254.set_2) | exact HI.out)) : IsS254 w0 _ g s _ _) (by (with_reducible repeat (first | apply Kd.R_alloc | apply Kd.R_drewN | apply Kd.R_drew)); exact HO.out) (by decide)) (fun _ hk => hk.2) (_)) (fun _ _ => trivial)))); (case aS => exact (keep_size (w := w) (g := g) (row := none) (by (repeat (first | (with_reducible first | exact HK.out | apply KeepBut.set_ | apply keep_drewN | apply keep_drew | apply keep_alloc) | exact HK.out))))); (case aL => have := HA1.out; have := HS.out; simp [numsB]; omega); intro v3 w3 ho hb hg hat; rw [← numsB_snoc] at ho; have n0_ := mk0 (IsS254.grown (by (repeat (first | (with_reducible first | exact HI.out | apply IsS254.alloc | apply IsS254.drewN | apply IsS254.drew | apply IsS254.set_0 | apply IsS254.set_1 | apply IsS254.set_2) | exact HI.out))) hg (IsS254.own_ne HI.out HO.out (by decide))); have n1_ := mk0 (below_weaken (by (repeat (first | (with_reducible first | exact HB.out | apply below_alloc | apply pw_below_drewN | apply below_drew1 | refine below_set ?_ (IsS254.ge HI.out)) | exact HB.out))) HL.out hb); have n2_ := mk0 (KeepBut.trans (by (repeat (first | (with_reducible first | exact HK.out | apply KeepBut.set_ | apply keep_drewN | apply keep_drew | apply keep_alloc) | exact HK.out))) (KeepBut.of_grown hg g) (Kd.R_base2 HO.out)); have n3_ := mk0 ho; clear HI HB HK HO ho hb hg hat; have HI := n0_; have HB := n1_; have HK := n2_; have HO := n3_; clear n0_ n1_ n2_ n3_; obtain ⟨HG, hg⟩ := HI.out; have hc0 := cellS254_0 HG; have hc1 := cellS254_1 HG; have hc2 := cellS254_2 HG; have hf0 := blk_frozen HG 0; have hf1 := blk_frozen HG 1; have hf2 := blk_frozen HG 2; clear HG hg))
         go_roundg (gk - 1)
         case measure => omega
         case rel => exact ⟨acc ++ [d], at_ + 2, -1, ⟨by omega, Or.inl ⟨rfl, by omega, by have := HA1.out; simp; omega, HC2.out.symm.trans HA2.out, Kd.R_mono (Kd.R_far (p := ⟨g, 1, none⟩) (IsS254.apart (by (repeat (first | (with_reducible first | exact HI.out | apply IsS254.alloc | apply IsS254.drewN | apply IsS254.drew | apply IsS254.set_0 | apply IsS254.set_1 | apply IsS254.set_2) | exact HI.out)) : IsS254 w0 _ g s _ _) (by (with_reducible repeat (first | apply Kd.R_alloc | apply Kd.R_drewN | apply Kd.R_drew)); exact HO.out) (by decide)) (fun _ hk => hk.2) (_)) (fun _ _ => trivial)⟩⟩, ⟨by rw [show ((at_ + 2 : Nat) : Int) = (at_ : Int) + 1 + 1 by omega]; (repeat (first | (with_reducible first | exact HI.out | apply IsS254.alloc | apply IsS254.drewN | apply IsS254.drew | apply IsS254.set_0 | apply IsS254.set_1 | apply IsS254.set_2) | exact HI.out))⟩, ⟨by (repeat (first | (with_reducible first | exact HK.out | apply KeepBut.set_ | apply keep_drewN | apply keep_drew | apply keep_alloc) | exact HK.out))⟩, ⟨by (repeat (first | (with_reducible first | exact HB.out | apply below_alloc | apply pw_below_drewN | apply below_drew1 | refine below_set ?_ (IsS254.ge HI.out)) | exact HB.out))⟩⟩
        ·
         have f92 : ((d.toNat : Int) != 92) = true := by rw [bne, show (92 : Int) = ((92 : Nat) : Int) from rfl, c_eq (by decide)]; simpa using d92
         have HC2 := mk0 (show textL (dropB s at_) acc = (none, dropB s (at_ + 1)) by rw [HD.out, HD1.out, textL_b2 _ _ HC.out (by simp [d34, d92])])
         clear d34 d92
         go_wp2_with (go_at_call 146; (with_reducible refine (filter_parser_stop.calls g s (at_ + 1) (-1) (at_ + 1) s (at_ + 1) (at_ + 1) w0 _ ?side1 ?side2 rfl).mono ?_); (case side1 => (repeat (first | (with_reducible first | exact HI.out | apply IsS254.alloc | apply IsS254.drewN | apply IsS254.drew | apply IsS254.set_0 | apply IsS254.set_1 | apply IsS254.set_2) | exact HI.out))); (case side2 => (repeat (first | (with_reducible first | exact HB.out | apply below_alloc | apply pw_below_drewN | apply below_drew1 | refine below_set ?_ (IsS254.ge HI.out)) | exact HB.out))); rintro e w2 ⟨rfl, hi, hb, hk⟩; have n0_ := mk0 hi; have n1_ := mk0 hb; have n2_ := mk0 (KeepBut.trans (by (repeat (first | (with_reducible first | exact HK.out | apply KeepBut.set_ | apply keep_drewN | apply keep_drew | apply keep_alloc) | exact HK.out))) hk (Or.inl rfl)); clear HI HB HK hi hb hk; have HI := n0_; have HB := n1_; have HK := n2_; clear n0_ n1_ n2_; obtain ⟨HG, hg⟩ := HI.out; have hc0 := cellS254_0 HG; have hc1 := cellS254_1 HG; have hc2 := cellS254_2 HG; have hf0 := blk_frozen HG 0; have hf1 := blk_frozen HG 1; have hf2 := blk_frozen HG 2; clear HG hg)
         repeat (go_quiet (fail); try go_wp2_with (go_at_call 146; (with_reducible refine (filter_parser_stop.calls g s (at_ + 1) (-1) (at_ + 1) s (at_ + 1) (at_ + 1) w0 _ ?side1 ?side2 rfl).mono ?_); (case side1 => (repeat (first | (with_reducible first | exact HI.out | apply IsS254.alloc | apply IsS254.drewN | apply IsS254.drew | apply IsS254.set_0 | apply IsS254.set_1 | apply IsS254.set_2) | exact HI.out))); (case side2 => (repeat (first | (with_reducible first | exact HB.out | apply below_alloc | apply pw_below_drewN | apply below_drew1 | refine below_set ?_ (IsS254.ge HI.out)) | exact HB.out))); rintro e w2 ⟨rfl, hi, hb, hk⟩; have n0_ := mk0 hi; have n1_ := mk0 hb; have n2_ := mk0 (KeepBut.trans (by (repeat (first | (with_reducible first | exact HK.out | apply KeepBut.set_ | apply keep_drewN | apply keep_drew | apply keep_alloc) | exact HK.out))) hk (Or.inl rfl)); clear HI HB HK hi hb hk; have HI := n0_; have HB := n1_; have HK := n2_; clear n0_ n1_ n2_; obtain ⟨HG, hg⟩ := HI.out; have hc0 := cellS254_0 HG; have hc1 := cellS254_1 HG; have hc2 := cellS254_2 HG; have hf0 := blk_frozen HG 0; have hf1 := blk_frozen HG 1; have hf2 := blk_frozen HG 2; clear HG hg))
         go_roundg 1
         case measure => omega
         case rel => exact ⟨acc, (at_ + 1), ((at_ + 1) : Nat), ⟨by omega, Or.inr ⟨rfl, by omega, HA2.out.symm.trans HC2.out⟩⟩, ⟨by first | (rw [show ((at_ + 1 : Nat) : Int) = (at_ : Int) + 1 by omega]; (repeat (first | (with_reducible first | exact HI.out | apply IsS254.alloc | apply IsS254.drewN | apply IsS254.drew | apply IsS254.set_0 | apply IsS254.set_1 | apply IsS254.set_2) | exact HI.out))) | (repeat (first | (with_reducible first | exact HI.out | apply IsS254.alloc | apply IsS254.drewN | apply IsS254.drew | apply IsS254.set_0 | apply IsS254.set_1 | apply IsS254.set_2) | exact HI.out))⟩, ⟨by (repeat (first | (with_reducible first | exact HK.out | apply KeepBut.set_ | apply keep_drewN | apply keep_drew | apply keep_alloc) | exact HK.out))⟩, ⟨by (repeat (first | (with_reducible first | exact HB.out | apply below_alloc | apply pw_below_drewN | apply below_drew1 | refine below_set ?_ (IsS254.ge HI.out)) | exact HB.out))⟩⟩
      ·
       have p3 := decide_eq_true (show ((s.size : Int) ≤ (at_ : Int) + 1) by omega)
       have HC2 := mk0 (show textL (dropB s at_) acc = (none, dropB s (at_ + 1)) by rw [HD.out, dropB_nil (show s.size ≤ at_ + 1 by omega), textL_b0 _ HC.out])
       go_wp2_with (go_at_call 146; (with_reducible refine (filter_parser_stop.calls g s (at_ + 1) (-1) (at_ + 1) s (at_ + 1) (at_ + 1) w0 _ ?side1 ?side2 rfl).mono ?_); (case side1 => (repeat (first | (with_reducible first | exact HI.out | apply IsS254.alloc | apply IsS254.drewN | apply IsS254.drew | apply IsS254.set_0 | apply IsS254.set_1 | apply IsS254.set_2) | exact HI.out))); (case side2 => (repeat (first | (with_reducible first | exact HB.out | apply below_alloc | apply pw_below_drewN | apply below_drew1 | refine below_set ?_ (IsS254.ge HI.out)) | exact HB.out))); rintro e w2 ⟨rfl, hi, hb, hk⟩; have n0_ := mk0 hi; have n1_ := mk0 hb; have n2_ := mk0 (KeepBut.trans (by (repeat (first | (with_reducible first | exact HK.out | apply KeepBut.set_ | apply keep_drewN | apply keep_drew | apply keep_alloc) | exact HK.out))) hk (Or.inl rfl)); clear HI HB HK hi hb hk; have HI := n0_; have HB := n1_; have HK := n2_; clear n0_ n1_ n2_; obtain ⟨HG, hg⟩ := HI.out; have hc0 := cellS254_0 HG; have hc1 := cellS254_1 HG; have hc2 := cellS254_2 HG; have hf0 := blk_frozen HG 0; have hf1 := blk_frozen HG 1; have hf2 := blk_frozen HG 2; clear HG hg)
       repeat (go_quiet (fail); try go_wp2_with (go_at_call 146; (with_reducible refine (filter_parser_stop.calls g s (at_ + 1) (-1) (at_ + 1) s (at_ + 1) (at_ + 1) w0 _ ?side1 ?side2 rfl).mono ?_); (case side1 => (repeat (first | (with_reducible first | exact HI.out | apply IsS254.alloc | apply IsS254.drewN | apply IsS254.drew | apply IsS254.set_0 | apply IsS254.set_1 | apply IsS254.set_2) | exact HI.out))); (case side2 => (repeat (first | (with_reducible first | exact HB.out | apply below_alloc | apply pw_below_drewN | apply below_drew1 | refine below_set ?_ (IsS254.ge HI.out)) | exact HB.out))); rintro e w2 ⟨rfl, hi, hb, hk⟩; have n0_ := mk0 hi; have n1_ := mk0 hb; have n2_ := mk0 (KeepBut.trans (by (repeat (first | (with_reducible first | exact HK.out | apply KeepBut.set_ | apply keep_drewN | apply keep_drew | apply keep_alloc) | exact HK.out))) hk (Or.inl rfl)); clear HI HB HK hi hb hk; have HI := n0_; have HB := n1_; have HK := n2_; clear n0_ n1_ n2_; obtain ⟨HG, hg⟩ := HI.out; have hc0 := cellS254_0 HG; have hc1 := cellS254_1 HG; have hc2 := cellS254_2 HG; have hf0 := blk_frozen HG 0; have hf1 := blk_frozen HG 1; have hf2 := blk_frozen HG 2; clear HG hg))
       go_roundg 1
       case measure => omega
       case rel => exact ⟨acc, (at_ + 1), ((at_ + 1) : Nat), ⟨by omega, Or.inr ⟨rfl, by omega, HA2.out.symm.trans HC2.out⟩⟩, ⟨by first | (rw [show ((at_ + 1 : Nat) : Int) = (at_ : Int) + 1 by omega]; (repeat (first | (with_reducible first | exact HI.out | apply IsS254.alloc | apply IsS254.drewN | apply IsS254.drew | apply IsS254.set_0 | apply IsS254.set_1 | apply IsS254.set_2) | exact HI.out))) | (repeat (first | (with_reducible first | exact HI.out | apply IsS254.alloc | apply IsS254.drewN | apply IsS254.drew | apply IsS254.set_0 | apply IsS254.set_1 | apply IsS254.set_2) | exact HI.out))⟩, ⟨by (repeat (first | (with_reducible first | exact HK.out | apply KeepBut.set_ | apply keep_drewN | apply keep_drew | apply keep_alloc) | exact HK.out))⟩, ⟨by (repeat (first | (with_reducible first | exact HB.out | apply below_alloc | apply pw_below_drewN | apply below_drew1 | refine below_set ?_ (IsS254.ge HI.out)) | exact HB.out))⟩⟩
     ·
      have e92 : ((c.toNat : Int) == 92) = false := by rw [show (92 : Int) = ((92 : Nat) : Int) from rfl, c_eq (by decide)]; simpa using h92
      by_cases hp : 32 ≤ c ∧ c ≤ 126
      ·
       have g1 := decide_eq_true (show (32 : Int) ≤ (c.toNat : Int) by have := UInt8.le_iff_toNat_le.mp hp.1; simp at this; omega)
       have g2 := decide_eq_true (show (c.toNat : Int) ≤ 126 by have := UInt8.le_iff_toNat_le.mp hp.2; simp at this; omega)
       have HC2 := mk0 (show textL (dropB s at_) acc = textL (dropB s (at_ + 1)) (acc ++ [c]) by rw [HD.out, textL_p _ _ h34 h92 hp])
       clear h34 h92 hp
       go_wp2_with ((with_reducible refine gate_builtin (b := .append) (xs := #[.tmp 115, .tmp 117]) rfl ?_); at_builtin; refine Kd.R_append (Kd.int .u8) w.heap.size rfl (.tmp 115) (.tmp 117) 263 5 (.int .u8 0) 1 rfl Tryz.underlying263 info5 rfl (by decide) (by omega) u3 (numsB acc) (c.toNat : Int) [.int .u8 (c.toNat : Int)] (fun _ => True) (fun _ => False) rfl ?aX ?aP (fun _ hk => hk.elim) ?aF ?aO (Below.refl _ _) ?aS ?aL ?_; (case aX => first | rfl | (go_simp; done) | (go_simp; rfl)); (case aP => exact rfl); (case aF => exact (fun _ _ => trivial)); (case aO => exact (by (with_reducible repeat (first | apply Kd.R_alloc | apply Kd.R_drewN | apply Kd.R_drew)); exact HO.out)); (case aS => exact (keep_size (w := w) (g := g) (row := none) (by (repeat (first | (with_reducible first | exact HK.out | apply KeepBut.set_ | apply keep_drewN | apply keep_drew | apply keep_alloc) | exact HK.out))))); (case aL => have := HA1.out; have := HS.out; simp [numsB]; omega); intro v3 w3 ho hb hg hat; rw [← numsB_snoc] at ho; have n0_ := mk0 (IsS254.grown (by (repeat (first | (with_reducible first | exact HI.out | apply IsS254.alloc | apply IsS254.drewN | apply IsS254.drew | apply IsS254.set_0 | apply IsS254.set_1 | apply IsS254.set_2) | exact HI.out))) hg (IsS254.own_ne HI.out HO.out (by decide))); have n1_ := mk0 (below_weaken (by (repeat (first | (with_reducible first | exact HB.out | apply below_alloc | apply pw_below_drewN | apply below_drew1 | refine below_set ?_ (IsS254.ge HI.out)) | exact HB.out))) HL.out hb); have n2_ := mk0 (KeepBut.trans (by (repeat (first | (with_reducible first | exact HK.out | apply KeepBut.set_ | apply keep_drewN | apply keep_drew | apply keep_alloc) | exact HK.out))) (KeepBut.of_grown hg g) (Kd.R_base2 HO.out)); have n3_ := mk0 ho; clear HI HB HK HO ho hb hg hat; have HI := n0_; have HB := n1_; have HK := n2_; have HO := n3_; clear n0_ n1_ n2_ n3_; obtain ⟨HG, hg⟩ := HI.out; have hc0 := cellS254_0 HG; have hc1 := cellS254_1 HG; have hc2 := cellS254_2 HG; have hf0 := blk_frozen HG 0; have hf1 := blk_frozen HG 1; have hf2 := blk_frozen HG 2; clear HG hg)
       repeat (go_quiet (fail); try go_wp2_with ((with_reducible refine gate_builtin (b := .append) (xs := #[.tmp 115, .tmp 117]) rfl ?_); at_builtin; refine Kd.R_append (Kd.int .u8) w.heap.size rfl (.tmp 115) (.tmp 117) 263 5 (.int .u8 0) 1 rfl Tryz.underlying263 info5 rfl (by decide) (by omega) u3 (numsB acc) (c.toNat : Int) [.int .u8 (c.toNat : Int)] (fun _ => True) (fun _ => False) rfl ?aX ?aP (fun _ hk => hk.elim) ?aF ?aO (Below.refl _ _) ?aS ?aL ?_; (case aX => first | rfl | (go_simp; done) | (go_simp; rfl)); (case aP => exact rfl); (case aF => exact (fun _ _ => trivial)); (case aO => exact (by (with_reducible repeat (first | apply Kd.R_alloc | apply Kd.R_drewN | apply Kd.R_drew)); exact HO.out)); (case aS => exact (keep_size (w := w) (g := g) (row := none) (by (repeat (first | (with_reducible first | exact HK.out | apply KeepBut.set_ | apply keep_drewN | apply keep_drew | apply keep_alloc) | exact HK.out))))); (case aL => have := HA1.out; have := HS.out; simp [numsB]; omega); intro v3 w3 ho hb hg hat; rw [← numsB_snoc] at ho; have n0_ := mk0 (IsS254.grown (by (repeat (first | (with_reducible first | exact HI.out | apply IsS254.alloc | apply IsS254.drewN | apply IsS254.drew | apply IsS254.set_0 | apply IsS254.set_1 | apply IsS254.set_2) | exact HI.out))) hg (IsS254.own_ne HI.out HO.out (by decide))); have n1_ := mk0 (below_weaken (by (repeat (first | (with_reducible first | exact HB.out | apply below_alloc | apply pw_below_drewN | apply below_drew1 | refine below_set ?_ (IsS254.ge HI.out)) | exact HB.out))) HL.out hb); have n2_ := mk0 (KeepBut.trans (by (repeat (first | (with_reducible first | exact HK.out | apply KeepBut.set_ | apply keep_drewN | apply keep_drew | apply keep_alloc) | exact HK.out))) (KeepBut.of_grown hg g) (Kd.R_base2 HO.out)); have n3_ := mk0 ho; clear HI HB HK HO ho hb hg hat; have HI := n0_; have HB := n1_; have HK := n2_; have HO := n3_; clear n0_ n1_ n2_ n3_; obtain ⟨HG, hg⟩ := HI.out; have hc0 := cellS254_0 HG; have hc1 := cellS254_1 HG; have hc2 := cellS254_2 HG; have hf0 := blk_frozen HG 0; have hf1 := blk_frozen HG 1; have hf2 := blk_frozen HG 2; clear HG hg))
       go_roundg (gk - 1)
       case measure => omega
       case rel => exact ⟨acc ++ [c], at_ + 1, -1, ⟨by omega, Or.inl ⟨rfl, by omega, by have := HA1.out; simp; omega, HC2.out.symm.trans HA2.out, Kd.R_mono (Kd.R_far (p := ⟨g, 1, none⟩) (IsS254.apart (by (repeat (first | (with_reducible first | exact HI.out | apply IsS254.alloc | apply IsS254.drewN | apply IsS254.drew | apply IsS254.set_0 | apply IsS254.set_1 | apply IsS254.set_2) | exact HI.out)) : IsS254 w0 _ g s _ _) (by (with_reducible repeat (first | apply Kd.R_alloc | apply Kd.R_drewN | apply Kd.R_drew)); exact HO.out) (by decide)) (fun _ hk => hk.2) (_)) (fun _ _ => trivial)⟩⟩, ⟨by rw [show ((at_ + 1 : Nat) : Int) = (at_ : Int) + 1 by omega]; (repeat (first | (with_reducible first | exact HI.out | apply IsS254.alloc | apply IsS254.drewN | apply IsS254.drew | apply IsS254.set_0 | apply IsS254.set_1 | apply IsS254.set_2) | exact HI.out))⟩, ⟨by (repeat (first | (with_reducible first | exact HK.out | apply KeepBut.set_ | apply keep_drewN | apply keep_drew | apply keep_alloc) | exact HK.out))⟩, ⟨by (repeat (first | (with_reducible first | exact HB.out | apply below_alloc | apply pw_below_drewN | apply below_drew1 | refine below_set ?_ (IsS254.ge HI.out)) | exact HB.out))⟩⟩
      ·
       have HC2 := mk0 (show textL (dropB s at_) acc = (none, dropB s at_) by rw [HD.out, textL_n _ _ h34 h92 hp])
       clear h34 h92
       by_cases g0 : 32 ≤ c
       ·
        have g1 := decide_eq_true (show (32 : Int) ≤ (c.toNat : Int) by have := UInt8.le_iff_toNat_le.mp g0; simp at this; omega)
        have g2 := decide_eq_false (show ¬ (c.toNat : Int) ≤ 126 by intro hh; exact hp ⟨g0, by rw [UInt8.le_iff_toNat_le]; simp; omega⟩)
        clear g0 hp
        go_wp2_with (go_at_call 146; (with_reducible refine (filter_parser_stop.calls g s at_ (-1) at_ s at_ at_ w0 _ ?side1 ?side2 rfl).mono ?_); (case side1 => (repeat (first | (with_reducible first | exact HI.out | apply IsS254.alloc | apply IsS254.drewN | apply IsS254.drew | apply IsS254.set_0 | apply IsS254.set_1 | apply IsS254.set_2) | exact HI.out))); (case side2 => (repeat (first | (with_reducible first | exact HB.out | apply below_alloc | apply pw_below_drewN | apply below_drew1 | refine below_set ?_ (IsS254.ge HI.out)) | exact HB.out))); rintro e w2 ⟨rfl, hi, hb, hk⟩; have n0_ := mk0 hi; have n1_ := mk0 hb; have n2_ := mk0 (KeepBut.trans (by (repeat (first | (with_reducible first | exact HK.out | apply KeepBut.set_ | apply keep_drewN | apply keep_drew | apply keep_alloc) | exact HK.out))) hk (Or.inl rfl)); clear HI HB HK hi hb hk; have HI := n0_; have HB := n1_; have HK := n2_; clear n0_ n1_ n2_; obtain ⟨HG, hg⟩ := HI.out; have hc0 := cellS254_0 HG; have hc1 := cellS254_1 HG; have hc2 := cellS254_2 HG; have hf0 := blk_frozen HG 0; have hf1 := blk_frozen HG 1; have hf2 := blk_frozen HG 2; clear HG hg)
        repeat (go_quiet (fail); try go_wp2_with (go_at_call 146; (with_reducible refine (filter_parser_stop.calls g s at_ (-1) at_ s at_ at_ w0 _ ?side1 ?side2 rfl).mono ?_); (case side1 => (repeat (first | (with_reducible first | exact HI.out | apply IsS254.alloc | apply IsS254.drewN | apply IsS254.drew | apply IsS254.set_0 | apply IsS254.set_1 | apply IsS254.set_2) | exact HI.out))); (case side2 => (repeat (first | (with_reducible first | exact HB.out | apply below_alloc | apply pw_below_drewN | apply below_drew1 | refine below_set ?_ (IsS254.ge HI.out)) | exact HB.out))); rintro e w2 ⟨rfl, hi, hb, hk⟩; have n0_ := mk0 hi; have n1_ := mk0 hb; have n2_ := mk0 (KeepBut.trans (by (repeat (first | (with_reducible first | exact HK.out | apply KeepBut.set_ | apply keep_drewN | apply keep_drew | apply keep_alloc) | exact HK.out))) hk (Or.inl rfl)); clear HI HB HK hi hb hk; have HI := n0_; have HB := n1_; have HK := n2_; clear n0_ n1_ n2_; obtain ⟨HG, hg⟩ := HI.out; have hc0 := cellS254_0 HG; have hc1 := cellS254_1 HG; have hc2 := cellS254_2 HG; have hf0 := blk_frozen HG 0; have hf1 := blk_frozen HG 1; have hf2 := blk_frozen HG 2; clear HG hg))
        go_roundg 1
        case measure => omega
        case rel => exact ⟨acc, at_, (at_ : Nat), ⟨by omega, Or.inr ⟨rfl, by omega, HA2.out.symm.trans HC2.out⟩⟩, ⟨by first | (rw [show ((at_ + 1 : Nat) : Int) = (at_ : Int) + 1 by omega]; (repeat (first | (with_reducible first | exact HI.out | apply IsS254.alloc | apply IsS254.drewN | apply IsS254.drew | apply IsS254.set_0 | apply IsS254.set_1 | apply IsS254.set_2) | exact HI.out))) | (repeat (first | (with_reducible first | exact HI.out | apply IsS254.alloc | apply IsS254.drewN | apply IsS254.drew | apply IsS254.set_0 | apply IsS254.set_1 | apply IsS254.set_2) | exact HI.out))⟩, ⟨by (repeat (first | (with_reducible first | exact HK.out | apply KeepBut.set_ | apply keep_drewN | apply keep_drew | apply keep_alloc) | exact HK.out))⟩, ⟨by (repeat (first | (with_reducible first | exact HB.out | apply below_alloc | apply pw_below_drewN | apply below_drew1 | refine below_set ?_ (IsS254.ge HI.out)) | exact HB.out))⟩⟩
       ·
        have g1 := decide_eq_false (show ¬ (32 : Int) ≤ (c.toNat : Int) by intro hh; exact g0 (by rw [UInt8.le_iff_toNat_le]; simp; omega))
        clear g0 hp
        go_wp2_with (go_at_call 146; (with_reducible refine (filter_parser_stop.calls g s at_ (-1) at_ s at_ at_ w0 _ ?side1 ?side2 rfl).mono ?_); (case side1 => (repeat (first | (with_reducible first | exact HI.out | apply IsS254.alloc | apply IsS254.drewN | apply IsS254.drew | apply IsS254.set_0 | apply IsS254.set_1 | apply IsS254.set_2) | exact HI.out))); (case side2 => (repeat (first | (with_reducible first | exact HB.out | apply below_alloc | apply pw_below_drewN | apply below_drew1 | refine below_set ?_ (IsS254.ge HI.out)) | exact HB.out))); rintro e w2 ⟨rfl, hi, hb, hk⟩; have n0_ := mk0 hi; have n1_ := mk0 hb; have n2_ := mk0 (KeepBut.trans (by (repeat (first | (with_reducible first | exact HK.out | apply KeepBut.set_ | apply keep_drewN | apply keep_drew | apply keep_alloc) | exact HK.out))) hk (Or.inl rfl)); clear HI HB HK hi hb hk; have HI := n0_; have HB := n1_; have HK := n2_; clear n0_ n1_ n2_; obtain ⟨HG, hg⟩ := HI.out; have hc0 := cellS254_0 HG; have hc1 := cellS254_1 HG; have hc2 := cellS254_2 HG; have hf0 := blk_frozen HG 0; have hf1 := blk_frozen HG 1; have hf2 := blk_frozen HG 2; clear HG hg)
        repeat (go_quiet (fail); try go_wp2_with (go_at_call 146; (with_reducible refine (filter_parser_stop.calls g s at_ (-1) at_ s at_ at_ w0 _ ?side1 ?side2 rfl).mono ?_); (case side1 => (repeat (first | (with_reducible first | exact HI.out | apply IsS254.alloc | apply IsS254.drewN | apply IsS254.drew | apply IsS254.set_0 | apply IsS254.set_1 | apply IsS254.set_2) | exact HI.out))); (case side2 => (repeat (first | (with_reducible first | exact HB.out | apply below_alloc | apply pw_below_drewN | apply below_drew1 | refine below_set ?_ (IsS254.ge HI.out)) | exact HB.out))); rintro e w2 ⟨rfl, hi, hb, hk⟩; have n0_ := mk0 hi; have n1_ := mk0 hb; have n2_ := mk0 (KeepBut.trans (by (repeat (first | (with_reducible first | exact HK.out | apply KeepBut.set_ | apply keep_drewN | apply keep_drew | apply keep_alloc) | exact HK.out))) hk (Or.inl rfl)); clear HI HB HK hi hb hk; have HI := n0_; have HB := n1_; have HK := n2_; clear n0_ n1_ n2_; obtain ⟨HG, hg⟩ := HI.out; have hc0 := cellS254_0 HG; have hc1 := cellS254_1 HG; have hc2 := cellS254_2 HG; have hf0 := blk_frozen HG 0; have hf1 := blk_frozen HG 1; have hf2 := blk_frozen HG 2; clear HG hg))
        go_roundg 1
        case measure => omega
        case rel => exact ⟨acc, at_, (at_ : Nat), ⟨by omega, Or.inr ⟨rfl, by omega, HA2.out.symm.trans HC2.out⟩⟩, ⟨by first | (rw [show ((at_ + 1 : Nat) : Int) = (at_ : Int) + 1 by omega]; (repeat (first | (with_reducible first | exact HI.out | apply IsS254.alloc | apply IsS254.drewN | apply IsS254.drew | apply IsS254.set_0 | apply IsS254.set_1 | apply IsS254.set_2) | exact HI.out))) | (repeat (first | (with_reducible first | exact HI.out | apply IsS254.alloc | apply IsS254.drewN | apply IsS254.drew | apply IsS254.set_0 | apply IsS254.set_1 | apply IsS254.set_2) | exact HI.out))⟩, ⟨by (repeat (first | (with_reducible first | exact HK.out | apply KeepBut.set_ | apply keep_drewN | apply keep_drew | apply keep_alloc) | exact HK.out))⟩, ⟨by (repeat (first | (with_reducible first | exact HB.out | apply below_alloc | apply pw_below_drewN | apply below_drew1 | refine below_set ?_ (IsS254.ge HI.out)) | exact HB.out))⟩⟩
   ·
    have q3 := decide_eq_true (show ((s.size : Int) ≤ (at_ : Int)) by omega)
    obtain rfl : at_ = s.size := by omega
    obtain ⟨HG, hg⟩ := HI.out
    have hc0 := cellS254_0 HG
    have hc1 := cellS254_1 HG
    have hc2 := cellS254_2 HG
    have hf0 := blk_frozen HG 0
    have hf1 := blk_frozen HG 1
    have hf2 := blk_frozen HG 2
    clear HG hg
    go_wp2_with (go_at_call 146; (with_reducible refine (filter_parser_stop.calls g s s.size (-1) s.size s s.size s.size w0 _ ?side1 ?side2 rfl).mono ?_); (case side1 => (repeat (first | (with_reducible first | exact HI.out | apply IsS254.alloc | apply IsS254.drewN | apply IsS254.drew | apply IsS254.set_0 | apply IsS254.set_1 | apply IsS254.set_2) | exact HI.out))); (case side2 => (repeat (first | (with_reducible first | exact HB.out | apply below_alloc | apply pw_below_drewN | apply below_drew1 | refine below_set ?_ (IsS254.ge HI.out)) | exact HB.out))); rintro e w2 ⟨rfl, hi, hb, hk⟩; have n0_ := mk0 hi; have n1_ := mk0 hb; have n2_ := mk0 (KeepBut.trans (by (repeat (first | (with_reducible first | exact HK.out | apply KeepBut.set_ | apply keep_drewN | apply keep_drew | apply keep_alloc) | exact HK.out))) hk (Or.inl rfl)); clear HI HB HK hi hb hk; have HI := n0_; have HB := n1_; have HK := n2_; clear n0_ n1_ n2_; obtain ⟨HG, hg⟩ := HI.out; have hc0 := cellS254_0 HG; have hc1 := cellS254_1 HG; have hc2 := cellS254_2 HG; have hf0 := blk_frozen HG 0; have hf1 := blk_frozen HG 1; have hf2 := blk_frozen HG 2; clear HG hg)
    repeat (go_quiet (fail); try go_wp2_with (go_at_call 146; (with_reducible refine (filter_parser_stop.calls g s s.size (-1) s.size s s.size s.size w0 _ ?side1 ?side2 rfl).mono ?_); (case side1 => (repeat (first | (with_reducible first | exact HI.out | apply IsS254.alloc | apply IsS254.drewN | apply IsS254.drew | apply IsS254.set_0 | apply IsS254.set_1 | apply IsS254.set_2) | exact HI.out))); (case side2 => (repeat (first | (with_reducible first | exact HB.out | apply below_alloc | apply pw_below_drewN | apply below_drew1 | refine below_set ?_ (IsS254.ge HI.out)) | exact HB.out))); rintro e w2 ⟨rfl, hi, hb, hk⟩; have n0_ := mk0 hi; have n1_ := mk0 hb; have n2_ := mk0 (KeepBut.trans (by (repeat (first | (with_reducible first | exact HK.out | apply KeepBut.set_ | apply keep_drewN | apply keep_drew | apply keep_alloc) | exact HK.out))) hk (Or.inl rfl)); clear HI HB HK hi hb hk; have HI := n0_; have HB := n1_; have HK := n2_; clear n0_ n1_ n2_; obtain ⟨HG, hg⟩ := HI.out; have hc0 := cellS254_0 HG; have hc1 := cellS254_1 HG; have hc2 := cellS254_2 HG; have hf0 := blk_frozen HG 0; have hf1 := blk_frozen HG 1; have hf2 := blk_frozen HG 2; clear HG hg))
    go_ret
    exact Or.inr ⟨[], by rw [← HA2.out, dropB_nil (Nat.le_refl _), textL_nil], by first | rfl | simp, by simp only [List.length_nil, Nat.sub_zero]; (repeat (first | (with_reducible first | exact HI.out | apply IsS254.alloc | apply IsS254.drewN | apply IsS254.drew | apply IsS254.set_0 | apply IsS254.set_1 | apply IsS254.set_2) | exact HI.out)), by (repeat (first | (with_reducible first | exact HB.out | apply below_alloc | apply pw_below_drewN | apply below_drew1 | refine below_set ?_ (IsS254.ge HI.out)) | exact HB.out)), by (repeat (first | (with_reducible first | exact HK.out | apply KeepBut.set_ | apply keep_drewN | apply keep_drew | apply keep_alloc) | exact HK.out))⟩
  ·
   have hb0 := decide_eq_false (show ¬ ((at_ : Int) < 0) by omega)
   have HA2 := mk0 ht
   clear ht HA
   obtain ⟨HG, hg⟩ := HI.out
   have hc0 := cellS254_0 HG
   have hc1 := cellS254_1 HG
   have hc2 := cellS254_2 HG
   have hf0 := blk_frozen HG 0
   have hf1 := blk_frozen HG 1
   have hf2 := blk_frozen HG 2
   clear HG hg
   go_wp2
   go_ret
   exact Or.inr ⟨dropB s at_, HA2.out, by first | rfl | simp, by rw [dropB_len, Nat.sub_sub_self hlb]; (repeat (first | (with_reducible first | exact HI.out | apply IsS254.alloc | apply IsS254.drewN | apply IsS254.drew | apply IsS254.set_0 | apply IsS254.set_1 | apply IsS254.set_2) | exact HI.out)), by (repeat (first | (with_reducible first | exact HB.out | apply below_alloc | apply pw_below_drewN | apply below_drew1 | refine below_set ?_ (IsS254.ge HI.out)) | exact HB.out)), by (repeat (first | (with_reducible first | exact HK.out | apply KeepBut.set_ | apply keep_drewN | apply keep_drew | apply keep_alloc) | exact HK.out))⟩
end Go.Proofs.YtnmpijbcajclgaaGreatDoor.Mine
end
