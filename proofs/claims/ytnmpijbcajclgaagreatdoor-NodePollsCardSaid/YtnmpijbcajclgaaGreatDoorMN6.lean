/- Texts of one claim, one behind the other, made short by a program. -/
import Derived.Test.YtnmpijbcajclgaaGreatDoorMN4
import Derived.Test.YtnmpijbcajclgaaGreatDoorMN5
set_option linter.unusedSimpArgs false
set_option linter.unusedVariables false
set_option maxRecDepth 100000
section
namespace Go.Proofs.YtnmpijbcajclgaaGreatDoor.Mine
open Go.RowKit YtnmpijbcajclgaaGreatDoorW.PrintWords YtnmpijbcajclgaaGreatDoorW.PrintLast YtnmpijbcajclgaaGreatDoorW.PrintMore
open PNodeAlone
def bytes (s : ByteArray) : List UInt8 := s.data.toList
theorem bytes_len (s : ByteArray) : (bytes s).length = s.size := by simp [bytes]
theorem suf_drop {s : ByteArray} {l : List UInt8} (h : l <:+ bytes s) : l = dropB s (s.size - l.length) := by
 obtain ⟨t, ht⟩ := h
 have h1 : (bytes s).length = t.length + l.length := by rw [← ht]; simp
 rw [bytes_len] at h1
 unfold dropB
 rw [show s.data.toList = t ++ l from ht.symm, show s.size - l.length = t.length by omega]
 simp
theorem drop_suf (s : ByteArray) (i : Nat) : dropB s i <:+ bytes s := List.drop_suffix _ _
theorem bt_cons {s : ByteArray} {i : Nat} {c : UInt8} {r : List UInt8} (h : dropB s i = c :: r) : i < s.size ∧ bt s (i : Int) = (c.toNat : Int) ∧ dropB s (i + 1) = r := by
 have h1 : i < s.size := by
  rcases Nat.lt_or_ge i s.size with h1 | h1
  ·
   exact h1
  ·
   rw [dropB_nil h1] at h; cases h
 rw [dropB_cons h1] at h
 injection h with h2 h3
 exact ⟨h1, by simp [bt, h1, h2], h3⟩
theorem wrap_in {x : Int} (h0 : -9223372036854775808 ≤ x) (h1 : x ≤ 9223372036854775807) : wrap64 x = x := by unfold wrap64; omega
theorem blanks_l0 (s : ByteArray) (hs : s.size ≤ 1000) (d : Nat) : ∀ (k i : Nat), i ≤ s.size → s.size - i = d → d < k →
 filter_parser_blanks.l0 k s (i : Int) (-1) = some (s, ((s.size - (skip (dropB s i)).length : Nat) : Int), -1) := by
 induction d with
 | zero =>
  intro k i h0 hd hk
  obtain ⟨k, rfl⟩ : ∃ m, k = m + 1 := ⟨k - 1, by omega⟩
  simp only [filter_parser_blanks.l0]
  rw [if_pos (by omega), if_neg (by omega), dropB_nil (by omega)]
  simp [skip]
  omega
 | succ d ih =>
  intro k i h0 hd hk
  obtain ⟨k, rfl⟩ : ∃ m, k = m + 1 := ⟨k - 1, by omega⟩
  have hlt : i < s.size := by omega
  have hc := dropB_cons hlt
  obtain ⟨h1, h2, h3⟩ := bt_cons hc
  simp only [filter_parser_blanks.l0]
  rw [if_pos (by omega), if_pos (by omega), if_pos (by omega), h2]
  by_cases h32 : s[i] = 32
  ·
   rw [if_pos (by rw [h32]; rfl), wrap_in (by omega) (by omega), show (i : Int) + 1 = ((i + 1 : Nat) : Int) by omega, ih k (i + 1) (by omega) (by omega) (by omega), hc]
   simp [skip, h32]
  ·
   have hn : ¬ ((s[i].toNat : Int) = 32) := by
    intro h
    exact h32 (UInt8.toNat_inj.mp (by simpa using (by omega : s[i].toNat = 32)))
   rw [if_neg hn, hc, skip, if_neg h32, ← hc, dropB_len]
   congr 3
   omega
theorem blanks_f {s : ByteArray} (hs : s.size ≤ 1000) {i : Nat} (hi : i ≤ s.size) : filter_parser_blanks.f (s.size + 1) s (i : Int) (-1) = some (s, ((s.size - (skip (dropB s i)).length : Nat) : Int), -1) :=
 blanks_l0 s hs (s.size - i) _ i hi rfl (by omega)
theorem blanks_bad {s : ByteArray} (i : Int) {b : Int} (hb : 0 ≤ b) : filter_parser_blanks.f 1 s i b = some (s, i, b) := by
 simp only [filter_parser_blanks.f, filter_parser_blanks.l0]
 rw [if_neg (by omega)]
def badI (s : ByteArray) : Option Nat → Int
 | none => -1
 | some n => ((s.size - n : Nat) : Int)
def IsP (w0 w : World) (g : Nat) (s : ByteArray) (st : St) : Prop := st.ok (bytes s) ∧ IsS254 w0 w g s ((s.size - st.l.length : Nat) : Int) (badI s st.bad)
def PostP (w0 w : World) (g : Nat) (s : ByteArray) (v : Value) (st : St) (e : Ending) (w' : World) : Prop :=
 e = .returned v ∧ IsP w0 w' g s st ∧ Below w0.heap.size w0 w' ∧ KeepBut w w' g none
theorem badI_nn (s : ByteArray) (n : Nat) : 0 ≤ badI s (some n) := by simp [badI]
section
variable {g : Nat} {s : ByteArray} {w0 w : World} {st : St}
theorem P_le (h : st.ok (bytes s)) : st.l.length ≤ s.size := by have := h.le; rwa [bytes_len] at this
theorem P_drop (h : st.ok (bytes s)) : dropB s (s.size - st.l.length) = st.l := (suf_drop h.1).symm
theorem blanks_P (hs : s.size ≤ 1000) (hI : IsP w0 w g s st) (hB : Below w0.heap.size w0 w) :
 Calls Tryz.prog 144 #[.pointer (some ⟨g, 0, none⟩)] w (PostP w0 w g s (.tuple #[]) (blanksS st)) := by
 obtain ⟨hok, hi⟩ := hI
 have hok2 := blanksS_ok hok
 obtain ⟨l, b⟩ := st
 cases b with
 | none =>
  have h := blanks_f hs (Nat.sub_le s.size l.length)
  rw [P_drop (st := ⟨l, none⟩) hok] at h
  exact (filter_parser_blanks.calls _ g s _ _ _ _ _ w0 w hi hB h).mono fun e w' ⟨he, h1, h2, h3⟩ => ⟨he, ⟨hok2, h1⟩, h2, h3⟩
 | some n =>
  exact (filter_parser_blanks.calls _ g s _ _ _ _ _ w0 w hi hB (blanks_bad _ (badI_nn s n))).mono fun e w' ⟨he, h1, h2, h3⟩ => ⟨he, ⟨hok2, h1⟩, h2, h3⟩
theorem stop_P (n : Nat) (hn : n ≤ s.size) (hI : IsP w0 w g s st) (hB : Below w0.heap.size w0 w) :
 Calls Tryz.prog 146 #[.pointer (some ⟨g, 0, none⟩), .int .i64 ((s.size - n : Nat) : Int)] w (PostP w0 w g s (.tuple #[]) (stopS st n)) := by
 obtain ⟨hok, hi⟩ := hI
 have hok2 := stopS_ok (n := n) hok (by rw [bytes_len]; exact hn)
 obtain ⟨l, b⟩ := st
 cases b with
 | none =>
  exact (filter_parser_stop.calls g s _ _ ((s.size - n : Nat) : Int) s _ _ w0 w hi hB (by simp only [filter_parser_stop.f]; rw [if_pos (by simp [badI])]; rfl)).mono fun e w' ⟨he, h1, h2, h3⟩ => ⟨he, ⟨hok2, h1⟩, h2, h3⟩
 | some m =>
  exact (filter_parser_stop.calls g s _ _ ((s.size - n : Nat) : Int) s _ _ w0 w hi hB (by simp only [filter_parser_stop.f]; rw [if_neg (by have := badI_nn s m; omega)]; rfl)).mono fun e w' ⟨he, h1, h2, h3⟩ => ⟨he, ⟨hok2, h1⟩, h2, h3⟩
theorem mark_f {s m : ByteArray} (hs : s.size ≤ 1000) (hm : m.size ≤ 1000) {i : Nat} (hi : i ≤ s.size) :
 filter_parser_mark.f (s.size + 1) s (i : Int) (-1) m = some (s, ((s.size - (markL (bytes m) (skip (dropB s i))).l.length : Nat) : Int), badI s (markL (bytes m) (skip (dropB s i))).bad) := by
 have hsuf : skip (dropB s i) <:+ bytes s := (skip_suf _).trans (drop_suf s i)
 have hd := suf_drop hsuf
 have hle : (skip (dropB s i)).length ≤ s.size := by have := hsuf.length_le; rwa [bytes_len] at this
 simp only [filter_parser_mark.f]
 rw [blanks_f hs hi]
 simp only [Option.bind_some]
 generalize skip (dropB s i) = L at hd hle ⊢
 rw [if_neg (by omega), wrap_in (by omega) (by omega)]
 have hml : (bytes m).length = m.size := bytes_len m
 by_cases h1 : (s.size : Int) - ((s.size - L.length : Nat) : Int) < (m.size : Int)
 ·
  have hp : (bytes m).isPrefixOf L = false := by
   rw [Bool.eq_false_iff]
   intro hp
   have := (List.isPrefixOf_iff_prefix.mp hp).length_le
   omega
  rw [if_pos h1]
  simp [markL, hp, filter_parser_stop.f, badI]
 ·
  rw [if_neg h1, if_pos (by omega), wrap_in (by omega) (by omega), if_pos (by omega), if_pos (by omega)]
  have he : (s.extract (((s.size - L.length : Nat) : Int)).toNat ((((s.size - L.length : Nat) : Int) + (m.size : Int))).toNat).toList = L.take m.size := by
   rw [Lib.extract_toList, show (((s.size - L.length : Nat) : Int)).toNat = s.size - L.length by omega, show ((((s.size - L.length : Nat) : Int) + (m.size : Int))).toNat - (s.size - L.length) = m.size by omega]
   exact congrArg _ hd.symm
  rw [he, Lib.toList_data]
  by_cases h2 : L.take m.size = m.data.toList
  ·
   have hp : (bytes m).isPrefixOf L = true := List.isPrefixOf_iff_prefix.mpr (List.prefix_iff_eq_take.mpr (by rw [hml]; exact h2.symm))
   rw [if_pos h2]
   simp [markL, hp, badI, hml]
   omega
  ·
   have hp : (bytes m).isPrefixOf L = false := by
    rw [Bool.eq_false_iff]
    intro hp
    have := List.prefix_iff_eq_take.mp (List.isPrefixOf_iff_prefix.mp hp)
    rw [hml] at this
    exact h2 this.symm
   rw [if_neg h2]
   simp [markL, hp, filter_parser_stop.f, badI]
theorem mark_bad {s m : ByteArray} (i : Int) {b : Int} (hb : 0 ≤ b) : filter_parser_mark.f 1 s i b m = some (s, i, b) := by
 simp only [filter_parser_mark.f]
 rw [blanks_bad i hb]
 simp only [Option.bind_some]
 rw [if_pos hb]
 simp only [filter_parser_stop.f]
 rw [if_neg (by omega)]
 rfl
theorem mark_P (m : ByteArray) (hm : m.size ≤ 1000) (hs : s.size ≤ 1000) (hI : IsP w0 w g s st) (hB : Below w0.heap.size w0 w) :
 Calls Tryz.prog 202 #[.pointer (some ⟨g, 0, none⟩), .string m] w (PostP w0 w g s (.tuple #[]) (markS (bytes m) st)) := by
 obtain ⟨hok, hi⟩ := hI
 have hok2 := markS_ok (m := bytes m) hok
 obtain ⟨l, b⟩ := st
 cases b with
 | none =>
  have h := mark_f hs hm (Nat.sub_le s.size l.length)
  rw [P_drop (st := ⟨l, none⟩) hok] at h
  exact (filter_parser_mark.calls _ g s _ _ _ _ _ _ w0 w hi hB h).mono fun e w' ⟨he, h1, h2, h3⟩ => ⟨he, ⟨hok2, h1⟩, h2, h3⟩
 | some n =>
  exact (filter_parser_mark.calls _ g s _ _ _ _ _ _ w0 w hi hB (mark_bad _ (badI_nn s n))).mono fun e w' ⟨he, h1, h2, h3⟩ => ⟨he, ⟨hok2, h1⟩, h2, h3⟩
end
theorem isLet_u (c : UInt8) : isLet (c.toNat : Int) = isL c := by
 rw [isLet, isL, decide_eq_decide, UInt8.le_iff_toNat_le, UInt8.le_iff_toNat_le, show (97 : UInt8).toNat = 97 from rfl, show (122 : UInt8).toNat = 122 from rfl]
 omega
theorem isDig_u (c : UInt8) : isDig (c.toNat : Int) = isD c := by
 rw [isDig, isD, decide_eq_decide, UInt8.le_iff_toNat_le, UInt8.le_iff_toNat_le, show (48 : UInt8).toNat = 48 from rfl, show (57 : UInt8).toNat = 57 from rfl]
 omega
theorem take_while_len (p : UInt8 → Bool) (r : List UInt8) : r.take (r.takeWhile p).length = r.takeWhile p := (List.prefix_iff_eq_take.mp (List.takeWhile_prefix p)).symm
theorem while_len (p : UInt8 → Bool) (r : List UInt8) : (r.takeWhile p).length + (r.dropWhile p).length = r.length := by
 rw [← List.length_append, List.takeWhile_append_dropWhile]
theorem wordGo_tail (s : ByteArray) (frm : Nat) : ∀ (k at_ : Nat), frm < at_ → at_ ≤ s.size → s.size - at_ ≤ k → wordGo s frm k at_ = at_ + ((dropB s at_).takeWhile isA).length
 | 0, at_, _, h1, h2 => by rw [dropB_nil (by omega)]; simp [wordGo]
 | k + 1, at_, h0, h1, h2 => by
  rcases Nat.lt_or_ge at_ s.size with hlt | hge
  ·
   have hc := dropB_cons hlt
   obtain ⟨_, hb, _⟩ := bt_cons hc
   have hok : wordOk s frm at_ = isA s[at_] := by simp [wordOk, hb, isLet_u, isDig_u, isA, h0]
   unfold wordGo
   rw [hok, hc, List.takeWhile_cons]
   by_cases ha : isA s[at_] = true
   ·
    rw [if_pos ⟨hlt, ha⟩, if_pos ha, wordGo_tail s frm k (at_ + 1) (by omega) (by omega) (by omega)]
    simp
    omega
   ·
    rw [if_neg (fun h => ha h.2), if_neg ha]
    simp
  ·
   unfold wordGo
   rw [if_neg (fun h => by omega), dropB_nil hge]
   simp
theorem wordGo_head (s : ByteArray) (l : List UInt8) (hl : l <:+ bytes s) (hle : l.length ≤ s.size) : wordGo s (s.size - l.length) (s.size - (s.size - l.length)) (s.size - l.length) = s.size - (wordL l).2.l.length := by
 have hd := suf_drop hl
 match l with
 | [] => simp [wordL, wordGo]
 | c :: r =>
  have hlt : s.size - (c :: r).length < s.size := by simp at hle ⊢; omega
  obtain ⟨_, hb, h3⟩ := bt_cons hd.symm
  obtain ⟨k, hk⟩ : ∃ k, s.size - (s.size - (c :: r).length) = k + 1 := ⟨r.length, by simp at hle ⊢; omega⟩
  rw [hk]
  have hok : wordOk s (s.size - (c :: r).length) (s.size - (c :: r).length) = isL c := by simp only [wordOk, hb, isLet_u]; simp
  unfold wordGo
  rw [hok]
  by_cases hc : isL c = true
  ·
   have hw := while_len isA r
   rw [if_pos ⟨hlt, hc⟩, wordGo_tail _ _ _ _ (by omega) (by omega) (by simp at hk hle ⊢; omega), h3]
   simp only [wordL, hc, if_true]
   simp at hle ⊢
   omega
  ·
   rw [if_neg (fun h => hc h.2)]
   simp [wordL, hc]
theorem word_str (s : ByteArray) (l : List UInt8) (hl : l <:+ bytes s) (hle : l.length ≤ s.size) : s.extract (s.size - l.length) (s.size - (wordL l).2.l.length) = ⟨(wordL l).1.toArray⟩ := by
 have hd := suf_drop hl
 have h : (s.extract (s.size - l.length) (s.size - (wordL l).2.l.length)).data.toList = (wordL l).1 := by
  rw [Lib.extract_data, show s.data.toList.drop (s.size - l.length) = l from hd.symm]
  match l with
  | [] => simp [wordL]
  | c :: r =>
   have hw := while_len isA r
   by_cases hc : isL c = true
   ·
    simp only [wordL, hc, if_true]
    rw [show s.size - (r.dropWhile isA).length - (s.size - (c :: r).length) = (r.takeWhile isA).length + 1 by simp at hle ⊢; omega, List.take_succ_cons, take_while_len]
   ·
    simp [wordL, hc]
 rw [← h]
theorem word_state (s : ByteArray) (l : List UInt8) (hle : l.length ≤ s.size) : (if s.size - (wordL l).2.l.length = s.size - l.length then ((s.size - l.length : Nat) : Int) else -1) = badI s (wordL l).2.bad := by
 match l with
 | [] => simp [wordL, badI]
 | c :: r =>
  have hw := while_len isA r
  by_cases hc : isL c = true
  ·
   simp only [wordL, hc, if_true]
   rw [if_neg (by simp at hle ⊢; omega)]
   rfl
  ·
   simp [wordL, hc, badI]
set_option maxHeartbeats 1000000 in
theorem word_bad (g : Nat) (s : ByteArray) (at0 : Nat) (b : Int) (w0 w : World) (hI : IsS254 w0 w g s at0 b) (hB : Below w0.heap.size w0 w) (h1 : at0 ≤ s.size) (hs : s.size ≤ 1000) (hb : 0 ≤ b) :
 Calls Tryz.prog 145 #[.pointer (some ⟨g, 0, none⟩)] w fun e w' => e = .returned (.string ⟨#[]⟩) ∧ IsS254 w0 w' g s at0 b ∧ Below w0.heap.size w0 w' ∧ KeepBut w w' g none := by
 have HI := mk0 hI
 have HB := mk0 hB
 have HK := mk0 (KeepBut.refl w g none)
 have HS := mk0 hs
 have HX := mk0 (show s.extract at0 at0 = ⟨#[]⟩ by simp; rfl)
 clear hI hB
 go_enter Tryz.func145, Tryz.ntmps145
 go_wp2_with (go_at_call 144; (with_reducible refine (filter_parser_blanks.calls 1 g s at0 b s at0 b w0 _ ?side1 ?side2 (blanks_bad _ hb)).mono ?_); (case side1 => (repeat (first | (with_reducible first | exact HI.out | apply IsS254.alloc | apply IsS254.drewN | apply IsS254.drew | apply IsS254.set_0 | apply IsS254.set_1 | apply IsS254.set_2) | exact HI.out))); (case side2 => (repeat (first | (with_reducible first | exact HB.out | apply below_alloc | apply pw_below_drewN | apply below_drew1 | refine below_set ?_ (IsS254.ge HI.out)) | exact HB.out))); rintro e w2 ⟨rfl, hi, hb, hk⟩; have n0_ := mk0 hi; have n1_ := mk0 hb; have n2_ := mk0 (KeepBut.trans (by (repeat (first | (with_reducible first | exact HK.out | apply KeepBut.set_ | apply keep_drewN | apply keep_drew | apply keep_alloc) | exact HK.out))) hk (Or.inl rfl)); clear HI HB HK hi hb hk; have HI := n0_; have HB := n1_; have HK := n2_; clear n0_ n1_ n2_; obtain ⟨HG, hg⟩ := HI.out; have hc0 := cellS254_0 HG; have hc1 := cellS254_1 HG; have hc2 := cellS254_2 HG; have hf0 := blk_frozen HG 0; have hf1 := blk_frozen HG 1; have hf2 := blk_frozen HG 2; clear HG hg)
 clear hc0 hc1 hc2 hf0 hf1 hf2
 go_loopg [] 1 (fun _ wr => Aside0 (IsS254 w0 wr g s at0 b) ∧ Aside0 (KeepBut w wr g none) ∧ Aside0 (Below w0.heap.size w0 wr))
 case atStart => exact ⟨HI, HK, HB⟩
 case round =>
  clear HI HK HB
  obtain ⟨HI, HK, HB⟩ := hrel
  obtain ⟨HG, hg⟩ := HI.out
  have hc0 := cellS254_0 HG
  have hc1 := cellS254_1 HG
  have hc2 := cellS254_2 HG
  have hf0 := blk_frozen HG 0
  have hf1 := blk_frozen HG 1
  have hf2 := blk_frozen HG 2
  clear HG hg
  have q1 := decide_eq_false (show ¬ b < 0 by omega)
  go_wp2_with fail
  go_quiet (fail)
  go_wp2_with (go_at_call 146; (with_reducible refine (filter_parser_stop.calls g s at0 b at0 s at0 b w0 _ ?side1 ?side2 (by simp only [filter_parser_stop.f]; rw [if_neg (by omega)])).mono ?_); (case side1 => (repeat (first | (with_reducible first | exact HI.out | apply IsS254.alloc | apply IsS254.drewN | apply IsS254.drew | apply IsS254.set_0 | apply IsS254.set_1 | apply IsS254.set_2) | exact HI.out))); (case side2 => (repeat (first | (with_reducible first | exact HB.out | apply below_alloc | apply pw_below_drewN | apply below_drew1 | refine below_set ?_ (IsS254.ge HI.out)) | exact HB.out))); rintro e w2 ⟨rfl, hi, hb, hk⟩; have n0_ := mk0 hi; have n1_ := mk0 hb; have n2_ := mk0 (KeepBut.trans (by (repeat (first | (with_reducible first | exact HK.out | apply KeepBut.set_ | apply keep_drewN | apply keep_drew | apply keep_alloc) | exact HK.out))) hk (Or.inl rfl)); clear HI HB HK hi hb hk; have HI := n0_; have HB := n1_; have HK := n2_; clear n0_ n1_ n2_; obtain ⟨HG, hg⟩ := HI.out; have hc0 := cellS254_0 HG; have hc1 := cellS254_1 HG; have hc2 := cellS254_2 HG; have hf0 := blk_frozen HG 0; have hf1 := blk_frozen HG 1; have hf2 := blk_frozen HG 2; clear HG hg)
  go_quiet (fail)
  go_wp2
  go_ret
  exact ⟨by first | rfl | (rw [HX.out]; rfl) | simp, by (repeat (first | (with_reducible first | exact HI.out | apply IsS254.alloc | apply IsS254.drewN | apply IsS254.drew | apply IsS254.set_0 | apply IsS254.set_1 | apply IsS254.set_2) | exact HI.out)), by (repeat (first | (with_reducible first | exact HB.out | apply below_alloc | apply pw_below_drewN | apply below_drew1 | refine below_set ?_ (IsS254.ge HI.out)) | exact HB.out)), by (repeat (first | (with_reducible first | exact HK.out | apply KeepBut.set_ | apply keep_drewN | apply keep_drew | apply keep_alloc) | exact HK.out))⟩
set_option maxHeartbeats 1000000 in
theorem text_mbad (k : Nat) (g : Nat) (s : ByteArray) (at0 at1 : Nat) (b0 : Int) {b : Int} (w0 w : World) (hI : IsS254 w0 w g s at0 b0) (hB : Below w0.heap.size w0 w) (hm : filter_parser_mark.f k s at0 b0 (⟨#[34]⟩ : ByteArray) = some (s, (at1 : Int), b)) (hb : 0 ≤ b) :
 Calls Tryz.prog 203 #[.pointer (some ⟨g, 0, none⟩)] w fun e w' => e = .returned (.string ⟨#[]⟩) ∧ IsS254 w0 w' g s at1 b ∧ Below w0.heap.size w0 w' ∧ KeepBut w w' g none := by
 have HM := mk0 hm
 have HI := mk0 hI
 have HB := mk0 hB
 have HK := mk0 (KeepBut.refl w g none)
 clear hI hB hm
 go_enter Tryz.func203, Tryz.ntmps203
 go_wp2_with (go_at_call 202; (with_reducible refine (filter_parser_mark.calls k g s at0 b0 (⟨#[34]⟩ : ByteArray) s at1 b w0 _ ?side1 ?side2 HM.out).mono ?_); (case side1 => (repeat (first | (with_reducible first | exact HI.out | apply IsS254.alloc | apply IsS254.drewN | apply IsS254.drew | apply IsS254.set_0 | apply IsS254.set_1 | apply IsS254.set_2) | exact HI.out))); (case side2 => (repeat (first | (with_reducible first | exact HB.out | apply below_alloc | apply pw_below_drewN | apply below_drew1 | refine below_set ?_ (IsS254.ge HI.out)) | exact HB.out))); rintro e w2 ⟨rfl, hi, hb, hk⟩; have n0_ := mk0 hi; have n1_ := mk0 hb; have n2_ := mk0 (KeepBut.trans (by (repeat (first | (with_reducible first | exact HK.out | apply KeepBut.set_ | apply keep_drewN | apply keep_drew | apply keep_alloc) | exact HK.out))) hk (Or.inl rfl)); clear HI HB HK hi hb hk; have HI := n0_; have HB := n1_; have HK := n2_; clear n0_ n1_ n2_; obtain ⟨HG, hg⟩ := HI.out; have hc0 := cellS254_0 HG; have hc1 := cellS254_1 HG; have hc2 := cellS254_2 HG; have hf0 := blk_frozen HG 0; have hf1 := blk_frozen HG 1; have hf2 := blk_frozen HG 2; clear HG hg)
 clear hc0 hc1 hc2 hf0 hf1 hf2
 go_loopg [] 1 (fun _ wr => Aside0 (IsS254 w0 wr g s at1 b) ∧ Aside0 (KeepBut w wr g none) ∧ Aside0 (Below w0.heap.size w0 wr))
 case atStart => exact ⟨HI, HK, HB⟩
 case round =>
  clear HI HK HB
  obtain ⟨HI, HK, HB⟩ := hrel
  obtain ⟨HG, hg⟩ := HI.out
  have hc0 := cellS254_0 HG
  have hc1 := cellS254_1 HG
  have hc2 := cellS254_2 HG
  have hf0 := blk_frozen HG 0
  have hf1 := blk_frozen HG 1
  have hf2 := blk_frozen HG 2
  clear HG hg
  have q1 := decide_eq_false (show ¬ b < 0 by omega)
  go_wp2
  go_ret
  exact ⟨by first | rfl | simp, by (repeat (first | (with_reducible first | exact HI.out | apply IsS254.alloc | apply IsS254.drewN | apply IsS254.drew | apply IsS254.set_0 | apply IsS254.set_1 | apply IsS254.set_2) | exact HI.out)), by (repeat (first | (with_reducible first | exact HB.out | apply below_alloc | apply pw_below_drewN | apply below_drew1 | refine below_set ?_ (IsS254.ge HI.out)) | exact HB.out)), by (repeat (first | (with_reducible first | exact HK.out | apply KeepBut.set_ | apply keep_drewN | apply keep_drew | apply keep_alloc) | exact HK.out))⟩
section
variable {g : Nat} {s : ByteArray} {w0 w : World} {st : St}
theorem word_P (hs : s.size ≤ 1000) (hI : IsP w0 w g s st) (hB : Below w0.heap.size w0 w) :
 Calls Tryz.prog 145 #[.pointer (some ⟨g, 0, none⟩)] w (PostP w0 w g s (.string ⟨(wordS st).1.toArray⟩) (wordS st).2) := by
 obtain ⟨hok, hi⟩ := hI
 have hok2 := wordS_ok hok
 have hle := P_le hok
 obtain ⟨l, b⟩ := st
 cases b with
 | none =>
  have h := blanks_f hs (Nat.sub_le s.size l.length)
  rw [P_drop (st := ⟨l, none⟩) hok] at h
  have hsuf : skip l <:+ bytes s := (skip_suf _).trans hok.1
  have hle2 : (skip l).length ≤ s.size := by have := hsuf.length_le; rwa [bytes_len] at this
  refine (word_calls _ g s _ _ w0 w hi hB hs h (by omega)).mono ?_
  rintro e w' ⟨en, he0, he, h1, h2, h3⟩
  rw [wordGo_head s _ hsuf hle2] at he0
  subst he0
  rw [word_state s _ hle2] at h1
  rw [word_str s _ hsuf hle2] at he
  exact ⟨he, ⟨hok2, h1⟩, h2, h3⟩
 | some n =>
  exact (word_bad g s _ _ w0 w hi hB (by omega) hs (badI_nn s n)).mono fun e w' ⟨he, h1, h2, h3⟩ => ⟨he, ⟨hok2, h1⟩, h2, h3⟩
theorem text_P (hs : s.size ≤ 1000) (hI : IsP w0 w g s st) (hB : Below w0.heap.size w0 w) :
 Calls Tryz.prog 203 #[.pointer (some ⟨g, 0, none⟩)] w (PostP w0 w g s (.string ⟨(textS st).1.toArray⟩) (textS st).2) := by
 obtain ⟨hok, hi⟩ := hI
 have hok2 := textS_ok hok
 have hle := P_le hok
 obtain ⟨l, b⟩ := st
 cases b with
 | some n =>
  have ht : textS ⟨l, some n⟩ = ([], ⟨l, some n⟩) := textS_bad rfl
  rw [ht] at hok2 ⊢
  exact (text_mbad 1 g s _ _ _ w0 w hi hB (mark_bad _ (badI_nn s n)) (badI_nn s n)).mono fun e w' ⟨he, h1, h2, h3⟩ => ⟨he, ⟨hok2, h1⟩, h2, h3⟩
 | none =>
  have h := mark_f (m := (⟨#[34]⟩ : ByteArray)) hs (by decide) (Nat.sub_le s.size l.length)
  rw [P_drop (st := ⟨l, none⟩) hok] at h
  have hm : markL (bytes (⟨#[34]⟩ : ByteArray)) (skip l) = markS [34] ⟨l, none⟩ := rfl
  rw [hm] at h
  have hmok := markS_ok (m := [34]) hok
  cases hb : (markS [34] ⟨l, none⟩).bad with
  | none =>
   have ht : textS ⟨l, none⟩ = textR (textL (markS [34] ⟨l, none⟩).l []) := by unfold textS; rw [hb]
   rw [ht] at hok2 ⊢
   rw [hb] at h
   refine (text_calls _ g s _ _ w0 w hi hB hs h (Nat.sub_le _ _)).mono ?_
   rw [P_drop hmok]
   rintro e w' (⟨t, r, hx, he, h1, h2, h3⟩ | ⟨r, hx, he, h1, h2, h3⟩)
   ·
    rw [hx] at hok2 ⊢
    exact ⟨he, ⟨hok2, h1⟩, h2, h3⟩
   ·
    rw [hx] at hok2 ⊢
    exact ⟨he, ⟨hok2, h1⟩, h2, h3⟩
  | some n =>
   have ht : textS ⟨l, none⟩ = ([], markS [34] ⟨l, none⟩) := by unfold textS; rw [hb]
   rw [ht] at hok2 ⊢
   rw [hb] at h
   refine (text_mbad _ g s _ _ _ w0 w hi hB h (badI_nn s n)).mono fun e w' ⟨he, h1, h2, h3⟩ => ⟨he, ⟨hok2, ?_⟩, h2, h3⟩
   rw [hb]
   exact h1
end
theorem valD_snoc (ds : List UInt8) (c : UInt8) : valD (ds ++ [c]) = 10 * valD ds + ((c.toNat : Int) - 48) := by simp [valD]
theorem valD_go (ds : List UInt8) : ∀ n : Int, 0 ≤ n → (∀ c ∈ ds, isD c = true) → 0 ≤ ds.foldl (fun (n : Int) (c : UInt8) => 10 * n + ((c.toNat : Int) - 48)) n ∧ ds.foldl (fun (n : Int) (c : UInt8) => 10 * n + ((c.toNat : Int) - 48)) n < (n + 1) * 10 ^ ds.length := by
 induction ds with
 | nil => intro n h0 _; simp; omega
 | cons c r ih =>
  intro n h0 h
  have hc := h c (by simp)
  rw [← isDig_u] at hc
  simp only [isDig, decide_eq_true_eq] at hc
  obtain ⟨h1, h2⟩ := ih (10 * n + ((c.toNat : Int) - 48)) (by omega) (fun x hx => h x (by simp [hx]))
  refine ⟨h1, Int.lt_of_lt_of_le h2 ?_⟩
  rw [List.length_cons, Int.pow_succ, Int.mul_comm (10 ^ r.length) 10, ← Int.mul_assoc]
  exact Int.mul_le_mul_of_nonneg_right (by omega) (Int.pow_nonneg (by omega))
theorem valD_bounds (ds : List UInt8) (h : ∀ c ∈ ds, isD c = true) : 0 ≤ valD ds ∧ valD ds < 10 ^ ds.length := by
 have := valD_go ds 0 (by omega) h
 unfold valD
 rw [show ((0 : Int) + 1) * 10 ^ ds.length = 10 ^ ds.length by omega] at this
 exact this
theorem digit_f (c : UInt8) : filter_digit.f (c.toNat : Int) = some (isD c) := by
 rw [← isDig_u]
 unfold filter_digit.f isDig
 split
 ·
  congr 1
  rw [decide_eq_decide]
  omega
 ·
  simp
  omega
theorem stop_f (s : ByteArray) (a b : Int) : filter_parser_stop.f s a (-1) b = some (s, a, b) := by
 unfold filter_parser_stop.f
 rw [if_pos (by omega)]
theorem number_end (s : ByteArray) (first at_ frm : Nat) (sg : Int) (hsg : sg = 1 ∨ sg = -1) (pre : List UInt8) (hs : s.size ≤ 1000) (_hfr : frm ≤ s.size)
 (h0 : first ≤ at_) (h1 : at_ ≤ s.size) (hp : pre.length = at_ - first) (h10 : pre.length ≤ 10) (hd : dropB s first = pre ++ dropB s at_) (hpd : ∀ c ∈ pre, isD c = true)
 (hend : (dropB s at_).takeWhile isD = []) (k : Nat) :
 filter_parser_number.j3 (k + 1) ((s.size - frm : Nat) : Int) sg (valD pre) (first : Int) false s (at_ : Int) (-1)
  = some ((numD frm sg (dropB s first)).1, s, ((s.size - (numD frm sg (dropB s first)).2.l.length : Nat) : Int), badI s (numD frm sg (dropB s first)).2.bad) := by
 have htw : (dropB s first).takeWhile isD = pre := by
  rw [hd, List.takeWhile_append_of_pos hpd, hend, List.append_nil]
 have hdw : (dropB s first).dropWhile isD = dropB s at_ := by
  rw [hd, List.dropWhile_append_of_pos hpd]
  cases hx : dropB s at_ with
  | nil => rfl
  | cons c r =>
   rw [hx] at hend
   have : isD c = false := by
    rw [List.takeWhile_cons] at hend
    cases hc : isD c with
    | true => rw [hc] at hend; simp at hend
    | false => rfl
   rw [List.dropWhile_cons, this]
   simp
 have hb := valD_bounds pre hpd
 have hbig : valD pre ≤ 10000000000 := by
  have h3 : (10 : Int) ^ pre.length ≤ 10 ^ 10 := by exact_mod_cast Nat.pow_le_pow_right (by omega : 0 < 10) h10
  have : (10 : Int) ^ 10 = 10000000000 := by decide
  omega
 have hat : ((s.size - (dropB s at_).length : Nat) : Int) = (at_ : Int) := by rw [dropB_len]; omega
 have hw : wrap64 (sg * valD pre) = sg * valD pre := by
  rcases hsg with rfl | rfl
  ·
   exact wrap_in (by omega) (by omega)
  ·
   exact wrap_in (by omega) (by omega)
 have key : ∀ b : Bool, (b = true ↔ numBad sg (dropB s first)) → (if b = true then (some (sg * valD pre, s, (at_ : Int), ((s.size - frm : Nat) : Int))) else (some (sg * valD pre, s, (at_ : Int), (-1 : Int)))) = some ((numD frm sg (dropB s first)).1, s, ((s.size - (numD frm sg (dropB s first)).2.l.length : Nat) : Int), badI s (numD frm sg (dropB s first)).2.bad) := by
  intro b hbb
  unfold numD
  rw [htw, if_neg (show ¬ 10 < pre.length by omega), hdw]
  by_cases hbad : numBad sg (dropB s first)
  ·
   rw [if_pos (hbb.mpr hbad), if_pos hbad]
   simp only [hat]
   rfl
  ·
   rw [if_neg (fun h => hbad (hbb.mp h)), if_neg hbad]
   simp only [hat]
   rfl
 simp only [filter_parser_number.j3, hw, stop_f]
 rw [if_neg (by simp)]
 simp only [Option.bind_some]
 unfold numBad at key
 rw [htw] at key
 by_cases e1 : (at_ : Int) = (first : Int)
 ·
  rw [if_pos e1]
  have := key true (by simp; exact Or.inl (List.eq_nil_of_length_eq_zero (by omega)))
  simpa using this
 ·
  have hpne : pre ≠ [] := by intro h; rw [h] at hp; simp at hp; omega
  rw [if_neg e1]
  have hneg : ∀ (x : Prop), x = (sg < 0 ∧ valD pre = 0) → ((x) ↔ (if sg < 0 then (if valD pre = 0 then True else False) else False)) := by
   intro x hx
   rw [hx]
   by_cases a : sg < 0 <;> by_cases b : valD pre = 0 <;> simp [a, b]
  have tail : ∀ (q : Prop), (¬ q) → (q = (1 < pre.length ∧ (dropB s first).head? = some 48)) →
   (if sg < 0 then (if valD pre = 0 then (some (sg * valD pre, s, (at_ : Int), ((s.size - frm : Nat) : Int))) else (some (sg * valD pre, s, (at_ : Int), (-1 : Int)))) else (some (sg * valD pre, s, (at_ : Int), (-1 : Int)))) = some ((numD frm sg (dropB s first)).1, s, ((s.size - (numD frm sg (dropB s first)).2.l.length : Nat) : Int), badI s (numD frm sg (dropB s first)).2.bad) := by
   intro q hq hqe
   rw [hqe] at hq
   have := key (decide (sg < 0 ∧ valD pre = 0)) (by
    simp only [decide_eq_true_eq]
    constructor
    ·
     exact fun h => Or.inr (Or.inr h)
    ·
     rintro (h | h | h)
     ·
      exact absurd h hpne
     ·
      exact absurd h hq
     ·
      exact h)
   rw [← this]
   by_cases a : sg < 0 <;> by_cases b : valD pre = 0 <;> simp [a, b]
  rw [wrap_in (by omega) (by omega)]
  by_cases e2 : (at_ : Int) - (first : Int) > 1
  ·
   rw [if_pos e2, if_pos (by omega), if_pos (by omega)]
   obtain ⟨c, r, hc⟩ : ∃ c r, dropB s first = c :: r := ⟨_, _, dropB_cons (by omega)⟩
   obtain ⟨_, hbt, _⟩ := bt_cons hc
   rw [hbt]
   by_cases e3 : (c.toNat : Int) = 48
   ·
    rw [if_pos e3]
    have := key true (by simp; exact Or.inr (Or.inl ⟨by omega, by rw [hc]; simp; exact UInt8.toNat_inj.mp (by simpa using (by omega : c.toNat = 48))⟩))
    simpa using this
   ·
    rw [if_neg e3]
    refine tail _ ?_ rfl
    rintro ⟨_, h⟩
    rw [hc] at h
    simp at h
    rw [h] at e3
    exact e3 rfl
  ·
   rw [if_neg e2]
   refine tail _ ?_ rfl
   rintro ⟨h, _⟩
   omega
theorem number_l0 (s : ByteArray) (first frm : Nat) (sg : Int) (hsg : sg = 1 ∨ sg = -1) (hs : s.size ≤ 1000) (hfr : frm ≤ s.size) (d : Nat) : ∀ (k at_ : Nat) (pre : List UInt8),
 first ≤ at_ → at_ ≤ s.size → pre.length = at_ - first → pre.length ≤ 10 → dropB s first = pre ++ dropB s at_ → (∀ c ∈ pre, isD c = true) → s.size - at_ = d → 2 * d + 1 < k →
 filter_parser_number.l0 k ((s.size - frm : Nat) : Int) sg (valD pre) (first : Int) s (at_ : Int) (-1)
  = some ((numD frm sg (dropB s first)).1, s, ((s.size - (numD frm sg (dropB s first)).2.l.length : Nat) : Int), badI s (numD frm sg (dropB s first)).2.bad) := by
 induction d with
 | zero =>
  intro k at_ pre h0 h1 hp h10 hd hpd he hk
  obtain ⟨k, rfl⟩ : ∃ m, k = m + 2 := ⟨k - 2, by omega⟩
  simp only [filter_parser_number.l0]
  rw [if_neg (by omega)]
  exact number_end s first at_ frm sg hsg pre hs hfr h0 h1 hp h10 hd hpd (by rw [dropB_nil (by omega)]; rfl) k
 | succ d ih =>
  intro k at_ pre h0 h1 hp h10 hd hpd he hk
  obtain ⟨k, rfl⟩ : ∃ m, k = m + 2 := ⟨k - 2, by omega⟩
  have hlt : at_ < s.size := by omega
  have hc := dropB_cons hlt
  generalize hcc : s[at_]'hlt = c at hc
  obtain ⟨_, hbt, _⟩ := bt_cons hc
  simp only [filter_parser_number.l0]
  rw [if_pos (by omega), if_pos (by omega), hbt, digit_f]
  simp only [Option.bind_some]
  cases hdc : isD c with
  | false => exact number_end s first at_ frm sg hsg pre hs hfr h0 h1 hp h10 hd hpd (by rw [hc, List.takeWhile_cons, hdc]; simp) k
  | true =>
   have hdd := hdc
   rw [← isDig_u] at hdd
   simp only [isDig, decide_eq_true_eq] at hdd
   simp only [filter_parser_number.j3, if_true, stop_f, Option.bind_some]
   rw [wrap_in (by omega) (by omega)]
   by_cases h11 : (at_ : Int) - (first : Int) ≥ 10
   ·
    rw [if_pos h11]
    have h12 : 10 < ((dropB s first).takeWhile isD).length := by
     rw [hd, List.takeWhile_append_of_pos hpd, hc, List.takeWhile_cons, if_pos hdc]
     simp
     omega
    have h13 : (dropB s first).drop 10 = dropB s at_ := by
     rw [hd, ← show pre.length = 10 by omega, List.drop_left]
    unfold numD
    rw [if_pos h12]
    simp only [h13, dropB_len]
    have : ((s.size - (s.size - at_) : Nat) : Int) = (at_ : Int) := by omega
    rw [this]
    rfl
   ·
    have hb := valD_bounds pre hpd
    have hbig : valD pre ≤ 1000000000 := by
     have h3 : (10 : Int) ^ pre.length ≤ 10 ^ 9 := by exact_mod_cast Nat.pow_le_pow_right (by omega : 0 < 10) (by omega : pre.length ≤ 9)
     have : (10 : Int) ^ 9 = 1000000000 := by decide
     omega
    rw [if_neg h11, if_pos (by omega), if_pos (by omega), hbt, Int.emod_eq_of_lt (by omega) (by omega), wrap_in (x := 10 * valD pre) (by omega) (by omega), wrap_in (x := 10 * valD pre + ((c.toNat : Int) - 48)) (by omega) (by omega), wrap_in (x := (at_ : Int) + 1) (by omega) (by omega),
     ← valD_snoc, show (at_ : Int) + 1 = ((at_ + 1 : Nat) : Int) by omega]
    refine ih k (at_ + 1) (pre ++ [c]) (by omega) (by omega) (by simp; omega) (by simp; omega) (by rw [hd, hc]; simp) ?_ (by omega) (by omega)
    intro x hx
    rcases List.mem_append.mp hx with hx | hx
    ·
     exact hpd x hx
    ·
     simp at hx; subst hx; exact hdc
theorem number_f {s : ByteArray} (hs : s.size ≤ 1000) {i : Nat} (hi : i ≤ s.size) :
 filter_parser_number.f (2 * s.size + 10) s (i : Int) (-1) = some ((numL (skip (dropB s i))).1, s, ((s.size - (numL (skip (dropB s i))).2.l.length : Nat) : Int), badI s (numL (skip (dropB s i))).2.bad) := by
 have hsuf : skip (dropB s i) <:+ bytes s := (skip_suf _).trans (drop_suf s i)
 have hd := suf_drop hsuf
 have hle : (skip (dropB s i)).length ≤ s.size := by have := hsuf.length_le; rwa [bytes_len] at this
 have hbl : filter_parser_blanks.f (2 * s.size + 10) s (i : Int) (-1) = some (s, ((s.size - (skip (dropB s i)).length : Nat) : Int), -1) := blanks_l0 s hs (s.size - i) _ i hi rfl (by omega)
 simp only [filter_parser_number.f]
 rw [hbl]
 simp only [Option.bind_some]
 generalize skip (dropB s i) = L at hd hle ⊢
 rw [if_neg (by omega)]
 have v0 : (0 : Int) = valD [] := rfl
 cases L with
 | nil =>
  rw [if_neg (by simp)]
  have e : filter_parser_number.j0 (2 * s.size + 10) ((s.size - ([] : List UInt8).length : Nat) : Int) 1 0 false s ((s.size - ([] : List UInt8).length : Nat) : Int) (-1) = filter_parser_number.l0 (2 * s.size + 8) ((s.size - ([] : List UInt8).length : Nat) : Int) 1 0 ((s.size - ([] : List UInt8).length : Nat) : Int) s ((s.size - ([] : List UInt8).length : Nat) : Int) (-1) := by
   rw [show 2 * s.size + 10 = (2 * s.size + 8) + 1 + 1 from rfl]
   simp [filter_parser_number.j0, filter_parser_number.j1]
  rw [e, v0]
  have h := number_l0 s (s.size - ([] : List UInt8).length) ([] : List UInt8).length 1 (Or.inl rfl) hs (by simp) (s.size - (s.size - ([] : List UInt8).length)) (2 * s.size + 8) (s.size - ([] : List UInt8).length) [] (Nat.le_refl _) (by omega) (by simp) (by simp) (by simp) (by simp) rfl (by omega)
  rw [← hd] at h
  exact h
 | cons c r =>
  have hlt : (s.size - (c :: r).length) < s.size := by simp at hle ⊢; omega
  obtain ⟨_, hbt, h3⟩ := bt_cons hd.symm
  rw [if_pos (by omega), if_pos (by omega), hbt]
  by_cases h45 : c = 45
  ·
   have e : filter_parser_number.j0 (2 * s.size + 10) ((s.size - (c :: r).length : Nat) : Int) 1 0 ((c.toNat : Int) == 45) s ((s.size - (c :: r).length : Nat) : Int) (-1) = filter_parser_number.l0 (2 * s.size + 8) ((s.size - (c :: r).length : Nat) : Int) (-1) 0 ((s.size - (c :: r).length + 1 : Nat) : Int) s ((s.size - (c :: r).length + 1 : Nat) : Int) (-1) := by
    rw [show 2 * s.size + 10 = (2 * s.size + 8) + 1 + 1 from rfl]
    rw [show ((c.toNat : Int) == 45) = true by rw [h45]; rfl]
    simp only [filter_parser_number.j0, filter_parser_number.j1, if_true]
    rw [wrap_in (by omega) (by omega), show ((s.size - (c :: r).length : Nat) : Int) + 1 = ((s.size - (c :: r).length + 1 : Nat) : Int) by omega]
   rw [e, v0]
   have h := number_l0 s (s.size - (c :: r).length + 1) (c :: r).length (-1) (Or.inr rfl) hs hle (s.size - (s.size - (c :: r).length + 1)) (2 * s.size + 8) (s.size - (c :: r).length + 1) [] (Nat.le_refl _) (by omega) (by simp) (by simp) (by simp) (by simp) rfl (by omega)
   rw [h3] at h
   unfold numL
   simp only [if_pos h45]
   exact h
  ·
   have e : filter_parser_number.j0 (2 * s.size + 10) ((s.size - (c :: r).length : Nat) : Int) 1 0 ((c.toNat : Int) == 45) s ((s.size - (c :: r).length : Nat) : Int) (-1) = filter_parser_number.l0 (2 * s.size + 8) ((s.size - (c :: r).length : Nat) : Int) 1 0 ((s.size - (c :: r).length : Nat) : Int) s ((s.size - (c :: r).length : Nat) : Int) (-1) := by
    rw [show 2 * s.size + 10 = (2 * s.size + 8) + 1 + 1 from rfl]
    have : ((c.toNat : Int) == 45) = false := by rw [show (45 : Int) = ((45 : Nat) : Int) from rfl, c_eq (by decide)]; simpa using h45
    rw [this]
    simp [filter_parser_number.j0, filter_parser_number.j1]
   rw [e, v0]
   have h := number_l0 s (s.size - (c :: r).length) (c :: r).length 1 (Or.inl rfl) hs hle (s.size - (s.size - (c :: r).length)) (2 * s.size + 8) (s.size - (c :: r).length) [] (Nat.le_refl _) (by omega) (by simp) (by simp) (by simp) (by simp) rfl (by omega)
   rw [← hd] at h
   unfold numL
   simp only [if_neg h45]
   exact h
theorem number_bad {s : ByteArray} (i : Int) {b : Int} (hb : 0 ≤ b) : filter_parser_number.f 1 s i b = some (0, s, i, b) := by
 simp only [filter_parser_number.f]
 rw [blanks_bad i hb]
 simp only [Option.bind_some]
 rw [if_pos hb]
section
variable {g : Nat} {s : ByteArray} {w0 w : World} {st : St}
theorem number_P (hs : s.size ≤ 1000) (hI : IsP w0 w g s st) (hB : Below w0.heap.size w0 w) :
 Calls Tryz.prog 204 #[.pointer (some ⟨g, 0, none⟩)] w (PostP w0 w g s (.int .i64 (numberS st).1) (numberS st).2) := by
 obtain ⟨hok, hi⟩ := hI
 have hok2 := numberS_ok hok
 obtain ⟨l, b⟩ := st
 cases b with
 | none =>
  have h := number_f hs (Nat.sub_le s.size l.length)
  rw [P_drop (st := ⟨l, none⟩) hok] at h
  exact (filter_parser_number.calls _ g s _ _ _ _ _ _ w0 w hi hB h).mono fun e w' ⟨he, h1, h2, h3⟩ => ⟨he, ⟨hok2, h1⟩, h2, h3⟩
 | some n =>
  exact (filter_parser_number.calls _ g s _ _ _ _ _ _ w0 w hi hB (number_bad _ (badI_nn s n))).mono fun e w' ⟨he, h1, h2, h3⟩ => ⟨he, ⟨hok2, h1⟩, h2, h3⟩
end
end Go.Proofs.YtnmpijbcajclgaaGreatDoor.Mine
end
