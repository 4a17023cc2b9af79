/-
  Contracts of the filter parser's letter, digit and word. Conditions: the parser's block as IsS74 has it, the text at most 1000 bytes.
-/
import Derived.Test.YthaapijjjgkacaaDoorPFilterReadsx2
namespace Go.Proofs.YthaapijjjgkacaaDoor.Mine
open Go.RowKit Go.Proofs.YthaapijjjgkacaaDoorW.PrintWords Go.Proofs.YthaapijjjgkacaaDoorW.PrintLast Go.Proofs.YthaapijjjgkacaaDoorW.PrintMore
open Go.Proofs.YthaapijjjgkacaaDoor.PFilterReads

def isLet (c : Int) : Bool := decide (97 ≤ c ∧ c ≤ 122)
def isDig (c : Int) : Bool := decide (48 ≤ c ∧ c ≤ 57)
/-- may the byte at 'at_' be one of a word's that begins at 'frm'? -/
def wordOk (s : ByteArray) (frm at_ : Nat) : Bool := isLet (bt s at_) || (decide (frm < at_) && isDig (bt s at_))
def wordGo (s : ByteArray) (frm : Nat) : Nat → Nat → Nat
  | 0, at_ => at_
  | k + 1, at_ => if at_ < s.size ∧ wordOk s frm at_ = true then wordGo s frm k (at_ + 1) else at_

theorem letter_any (c : Int) (w : World) : Calls Tryd.prog 65 #[.int .u8 c] w fun e w' => e = .returned (.bool (isLet c)) ∧ w' = w := by
  by_cases h1 : 97 ≤ c
  · go_enter Tryd.func65, Tryd.ntmps65
    go_wp2
    go_ret
    exact ⟨by simp [isLet, h1], rfl⟩
  · go_enter Tryd.func65, Tryd.ntmps65
    go_wp2
    go_ret
    exact ⟨by simp [isLet]; omega, rfl⟩
theorem digit_any (c : Int) (w : World) : Calls Tryd.prog 66 #[.int .u8 c] w fun e w' => e = .returned (.bool (isDig c)) ∧ w' = w := by
  by_cases h1 : 48 ≤ c
  · go_enter Tryd.func66, Tryd.ntmps66
    go_wp2
    go_ret
    exact ⟨by simp [isDig, h1], rfl⟩
  · go_enter Tryd.func66, Tryd.ntmps66
    go_wp2
    go_ret
    exact ⟨by simp [isDig]; omega, rfl⟩
theorem letter_is (c : Int) (b : Bool) (w : World) (h : isLet c = b) : Calls Tryd.prog 65 #[.int .u8 c] w fun e w' => e = .returned (.bool b) ∧ w' = w := by subst h; exact letter_any c w
theorem digit_is (c : Int) (b : Bool) (w : World) (h : isDig c = b) : Calls Tryd.prog 66 #[.int .u8 c] w fun e w' => e = .returned (.bool b) ∧ w' = w := by subst h; exact digit_any c w

/-- What 'word' leaves, at a place 'en' behind 'frm'. -/
def WordPost (w0 w : World) (g : Nat) (s : ByteArray) (frm : Nat) (e : Ending) (w' : World) : Prop :=
  ∃ en : Nat, wordGo s frm (s.size - frm) frm = en ∧ e = .returned (.string (s.extract frm en)) ∧ IsS74 w0 w' g s en (if en = frm then (frm : Int) else -1) ∧ Below w0.heap.size w0 w' ∧ KeepBut w w' g none

set_option maxHeartbeats 2000000 in
set_option maxRecDepth 100000 in
theorem word_calls (k : Nat) (g : Nat) (s : ByteArray) (at0 : Nat) (frm : Nat) (w0 w : World) (hI : IsS74 w0 w g s at0 (-1)) (hB : Below w0.heap.size w0 w) (hs : s.size ≤ 1000)
    (hbl : filter_parser_blanks.f k s at0 (-1) = some (s, (frm : Int), -1)) (hf : frm ≤ s.size) :
    Calls Tryd.prog 35 #[.pointer (some ⟨g, 0, none⟩)] w (WordPost w0 w g s frm) := by
  go_enter Tryd.func35, Tryd.ntmps35
  go_wp2_with (go_at_call 34; (with_reducible refine (filter_parser_blanks.calls k g s at0 (-1) s frm (-1) w0 _ ?side1 ?side2 hbl).mono ?_); (case side1 => exact hI); (case side2 => exact hB); rintro e w1 ⟨rfl, hi, hb, hk⟩; have HI := Aside0.mk hi; have HB := Aside0.mk hb; have HK := Aside0.mk hk; have hc0 := cellS74_0 hi.1; have hc1 := cellS74_1 hi.1; clear hi hb hk)
  clear hc0 hc1
  have HS := Aside0.mk hs
  clear hI hB hbl
  go_loopg [] (s.size - frm) (fun n wr => ∃ at_ : Nat, Aside0 (frm ≤ at_ ∧ at_ + n = s.size ∧ wordGo s frm n at_ = wordGo s frm (s.size - frm) frm) ∧ Aside0 (IsS74 w0 wr g s at_ (-1)) ∧ Aside0 (KeepBut w wr g none) ∧ Aside0 (Below w0.heap.size w0 wr))
  case atStart => exact ⟨frm, ⟨Nat.le_refl _, by omega, rfl⟩, HI, HK, HB⟩
  case round =>
    clear HI HK HB
    obtain ⟨at_, HA, HI, HK, HB⟩ := hrel
    obtain ⟨HG, hg⟩ := HI.out
    have hc0 := cellS74_0 HG
    have hc1 := cellS74_1 HG
    have hc2 := cellS74_2 HG
    have hf0 := blk_frozen HG 0
    have hf1 := blk_frozen HG 1
    have hf2 := blk_frozen HG 2
    clear HG hg
    have hlb : at_ ≤ s.size := by have := HA.out; omega
    have hfa : frm ≤ at_ := HA.out.1
    by_cases hlt : at_ < s.size
    · have q1 : ((at_ : Int) < (s.size : Int)) := by omega
      have q2 := eq_true (show (0 : Int) ≤ (at_ : Int) by omega)
      have q3 := decide_eq_true q1
      replace q1 := eq_true q1
      have hx : ∀ h : at_ < s.size, ((s[at_]'h).toNat : Int) = bt s (at_ : Int) := fun h => by simp [bt, h]
      have hw : wordGo s frm (s.size - at_) at_ = if wordOk s frm at_ = true then wordGo s frm (s.size - (at_ + 1)) (at_ + 1) else at_ := by
        obtain ⟨m, hm⟩ : ∃ m, s.size - at_ = m + 1 := ⟨s.size - at_ - 1, by omega⟩
        rw [hm, show s.size - (at_ + 1) = m by omega]
        simp [wordGo, hlt]
      have HW := Aside0.mk hw
      clear hw
      by_cases h1 : isLet (bt s at_) = true
      · have HO := Aside0.mk (show wordOk s frm at_ = true by simp [wordOk, h1])
        have H1 := Aside0.mk h1
        clear h1
        go_wp2_with fail
        go_quiet (first | (go_at_call 65; refine Calls.quiet_of_same (letter_is _ true _ H1.out)))
        go_wp2
        go_roundg (s.size - (at_ + 1))
        case measure => have := HA.out; omega
        case rel => exact ⟨at_ + 1, ⟨by have := HA.out; omega, by have := HA.out; omega, by have h2 := HW.out; rw [if_pos HO.out] at h2; have h3 := HA.out; rw [show gk = s.size - at_ by omega] at h3; exact h2.symm.trans h3.2.2⟩, ⟨by rw [show ((at_ + 1 : Nat) : Int) = (at_ : Int) + 1 by omega]; exact IsS74.set_1 (IsS74.drewN HI.out _) _⟩, ⟨KeepBut.set_ (keep_drewN HK.out _) _ _⟩, ⟨below_set (pw_below_drewN HB.out _) (IsS74.ge HI.out)⟩⟩
      · replace h1 : isLet (bt s at_) = false := by simpa using h1
        by_cases h2 : frm < at_
        · have g1 := decide_eq_true (show (frm : Int) < (at_ : Int) by omega)
          have g2 := eq_true (show (frm : Int) < (at_ : Int) by omega)
          cases h3 : isDig (bt s at_) with
          | true =>
            have HO := Aside0.mk (show wordOk s frm at_ = true by simp [wordOk, h2, h3])
            have H1 := Aside0.mk h1
            have H3 := Aside0.mk h3
            clear h1 h3
            go_wp2_with fail
            go_quiet (first | (go_at_call 65; refine Calls.quiet_of_same (letter_is _ false _ H1.out)) | (go_at_call 66; refine Calls.quiet_of_same (digit_is _ true _ H3.out)))
            go_wp2
            go_roundg (s.size - (at_ + 1))
            case measure => have := HA.out; omega
            case rel => exact ⟨at_ + 1, ⟨by have := HA.out; omega, by have := HA.out; omega, by have h2 := HW.out; rw [if_pos HO.out] at h2; have h3 := HA.out; rw [show gk = s.size - at_ by omega] at h3; exact h2.symm.trans h3.2.2⟩, ⟨by rw [show ((at_ + 1 : Nat) : Int) = (at_ : Int) + 1 by omega]; exact IsS74.set_1 (IsS74.drewN HI.out _) _⟩, ⟨KeepBut.set_ (keep_drewN HK.out _) _ _⟩, ⟨below_set (pw_below_drewN HB.out _) (IsS74.ge HI.out)⟩⟩
          | false =>
            have HO := Aside0.mk (show wordOk s frm at_ = false by simp [wordOk, h1, h3])
            have H1 := Aside0.mk h1
            have H3 := Aside0.mk h3
            clear h1 h3
            have HE := Aside0.mk (show wordGo s frm (s.size - frm) frm = at_ by have h3 := HA.out; rw [← h3.2.2, show gk = s.size - at_ by omega]; rw [HW.out, if_neg (by rw [HO.out]; exact Bool.false_ne_true)])
            go_wp2_with fail
            go_quiet (first | (go_at_call 65; refine Calls.quiet_of_same (letter_is _ false _ H1.out)) | (go_at_call 66; refine Calls.quiet_of_same (digit_is _ false _ H3.out)))
            -- the word ends here, behind its first letter
            have g3 := beq_eq_false_iff_ne.mpr (show (at_ : Int) ≠ (frm : Int) by omega)
            go_wp2
            go_quiet (fail)
            go_wp2
            go_ret
            exact ⟨at_, HE.out, by first | rfl | simp, by rw [if_neg (by omega)]; exact IsS74.drewN (IsS74.drewN HI.out _) _, pw_below_drewN (pw_below_drewN HB.out _) _, keep_drewN (keep_drewN HK.out _) _⟩
        · have g1 := decide_eq_false (show ¬ (frm : Int) < (at_ : Int) by omega)
          have HO := Aside0.mk (show wordOk s frm at_ = false by simp [wordOk, h1, h2])
          have H1 := Aside0.mk h1
          clear h1
          have HE := Aside0.mk (show wordGo s frm (s.size - frm) frm = at_ by have h3 := HA.out; rw [← h3.2.2, show gk = s.size - at_ by omega]; rw [HW.out, if_neg (by rw [HO.out]; exact Bool.false_ne_true)])
          go_wp2_with fail
          go_quiet (first | (go_at_call 65; refine Calls.quiet_of_same (letter_is _ false _ H1.out)))
          -- there is no word here: stop
          obtain rfl : frm = at_ := by omega
          go_wp2_with (go_at_call 36; (with_reducible refine (filter_parser_stop.calls g s frm (-1) frm s frm frm w0 _ ?side1 ?side2 rfl).mono ?_); (case side1 => exact IsS74.drewN HI.out _); (case side2 => exact pw_below_drewN HB.out _); rintro e w2 ⟨rfl, hi, hb, hk⟩; have HI2 := Aside0.mk hi; have HB2 := Aside0.mk hb; have HK2 := Aside0.mk (KeepBut.trans (keep_drewN HK.out _) hk (Or.inl rfl)); have hd0 := cellS74_0 hi.1; have hd1 := cellS74_1 hi.1; have hd2 := cellS74_2 hi.1; clear hi hb hk)
          go_quiet (fail)
          go_wp2
          go_ret
          exact ⟨frm, HE.out, by first | rfl | simp, by rw [if_pos rfl]; exact IsS74.drewN HI2.out _, pw_below_drewN HB2.out _, keep_drewN HK2.out _⟩
    · have q3 := decide_eq_false (show ¬ (at_ : Int) < (s.size : Int) by omega)
      have HE := Aside0.mk (show wordGo s frm (s.size - frm) frm = at_ by have h3 := HA.out; rw [← h3.2.2, show gk = s.size - at_ by omega]; rw [show s.size - at_ = 0 by omega]; rfl)
      by_cases h2 : frm < at_
      · go_wp2_with fail
        go_quiet (fail)
        -- the word ends here, behind its first letter
        have g3 := beq_eq_false_iff_ne.mpr (show (at_ : Int) ≠ (frm : Int) by omega)
        go_wp2
        go_quiet (fail)
        go_wp2
        go_ret
        exact ⟨at_, HE.out, by first | rfl | simp, by rw [if_neg (by omega)]; exact IsS74.drewN (IsS74.drewN HI.out _) _, pw_below_drewN (pw_below_drewN HB.out _) _, keep_drewN (keep_drewN HK.out _) _⟩
      · go_wp2_with fail
        go_quiet (fail)
        -- there is no word here: stop
        obtain rfl : frm = at_ := by omega
        go_wp2_with (go_at_call 36; (with_reducible refine (filter_parser_stop.calls g s frm (-1) frm s frm frm w0 _ ?side1 ?side2 rfl).mono ?_); (case side1 => exact IsS74.drewN HI.out _); (case side2 => exact pw_below_drewN HB.out _); rintro e w2 ⟨rfl, hi, hb, hk⟩; have HI2 := Aside0.mk hi; have HB2 := Aside0.mk hb; have HK2 := Aside0.mk (KeepBut.trans (keep_drewN HK.out _) hk (Or.inl rfl)); have hd0 := cellS74_0 hi.1; have hd1 := cellS74_1 hi.1; have hd2 := cellS74_2 hi.1; clear hi hb hk)
        go_quiet (fail)
        go_wp2
        go_ret
        exact ⟨frm, HE.out, by first | rfl | simp, by rw [if_pos rfl]; exact IsS74.drewN HI2.out _, pw_below_drewN HB2.out _, keep_drewN HK2.out _⟩
end Go.Proofs.YthaapijjjgkacaaDoor.Mine
