/-
  wigwaglaw06.FilterPlaces, walked: true at every input. Condition: errors.errorType holds what its initialiser lays.
-/
import Derived.Test.YthaapijjjgkacaaDoorAwake
import Derived.Test.YthaapijjjgkacaaDoorPlain4
import Derived.Lib.AppendStr
set_option linter.unusedSimpArgs false
set_option linter.unusedVariables false
namespace Go.Proofs.YthaapijjjgkacaaDoor.Mine
open Go.RowKit Go.Proofs.YthaapijjjgkacaaDoorW.PrintWords Go.Proofs.YthaapijjjgkacaaDoorW.PrintLast Go.Proofs.YthaapijjjgkacaaDoorW.PrintMore
open Go.Proofs.YthaapijjjgkacaaDoor.PFilterReads

def cutB (s : ByteArray) (n : Nat) : ByteArray := if n < s.size then s.extract 0 n else s
theorem cutB_le (s : ByteArray) (n : Nat) : (cutB s n).size ≤ n := by
  unfold cutB
  split
  · simp; omega
  · omega
theorem cut_P (s : ByteArray) (n : Nat) (w : World) (hs : s.size ≤ 9223372036854775807) (hn : n ≤ 100000) : Calls Tryd.prog 11 #[.string s, .int .i64 (n : Int)] w fun e w' => e = .returned (.string (cutB s n)) ∧ w = w' := by
  by_cases h : n < s.size
  · have h1 := decide_eq_true (show (n : Int) < (s.size : Int) by omega)
    have h2 := decide_eq_true h
    have h3 : (0 : Int) ≤ (n : Int) := by omega
    have h4 : (n : Int) ≤ (s.size : Int) := by omega
    go_enter Tryd.func11, Tryd.ntmps11
    go_wp2
    go_ret
    exact ⟨by unfold cutB; rw [if_pos h]; first | rfl | simp, rfl⟩
  · have h1 := decide_eq_false (show ¬ (n : Int) < (s.size : Int) by omega)
    have h2 := decide_eq_false h
    go_enter Tryd.func11, Tryd.ntmps11
    go_wp2
    go_ret
    exact ⟨by unfold cutB; rw [if_neg h]; first | rfl | simp, rfl⟩

def sAnd : ByteArray := ⟨#[32, 97, 110, 100, 32]⟩
theorem parseR_PS {s : ByteArray} (h : s.size ≤ 300) : parseR s = match PS (bytes s) [] with | .inl xs => .inl xs | .inr n => .inr (((s.size - n : Nat) : Int), 2) := by
  unfold parseR PS
  rw [if_neg (by omega), bytes_len]
  cases parseS (s.size + 1) ⟨bytes s, none⟩ [] <;> rfl
theorem bytes_append (a b : ByteArray) : bytes (a ++ b) = bytes a ++ bytes b := by simp [bytes]
theorem parseR_ok {s : ByteArray} {xs : List Pr} (h : parseR s = .inl xs) : s.size ≤ 300 ∧ PS (bytes s) [] = .inl xs := by
  unfold parseR at h
  split at h
  · cases h
  · rename_i hs
    refine ⟨by omega, ?_⟩
    unfold PS
    rw [bytes_len]
    split at h
    · rename_i ys hy
      rw [hy]
      exact congrArg _ (by injection h)
    · cases h
def sB0 : ByteArray := ⟨#[120, 32, 105, 110]⟩
def sB1 : ByteArray := ⟨#[120, 32, 61, 32, 34]⟩
def sB2 : ByteArray := ⟨#[88, 32, 105, 110, 32, 49, 46, 46, 50]⟩
theorem places_plain (a bad : ByteArray) (xs : List Pr) (n : Nat) (h : parseR a = .inl xs) (ha : a.size ≤ 100) (hb : bad.size ≤ 20) (hn : PS (bytes bad) [] = .inr n) :
    parseR (a ++ sAnd ++ bad) = .inr (((a.size + 5 + bad.size - n : Nat) : Int), 2) := by
  obtain ⟨h1, h2⟩ := parseR_ok h
  have hsz : (a ++ sAnd ++ bad).size = a.size + 5 + bad.size := by simp [sAnd, ByteArray.size_append]; rfl
  rw [parseR_PS (by rw [hsz]; omega), bytes_append, bytes_append, List.append_assoc]
  have h3 : bytes sAnd ++ bytes bad = 32 :: (97 :: 110 :: 100 :: 32 :: bytes bad) := rfl
  rw [h3, PS_ext _ _ _ _ _ (Nat.le_refl _) h2, tailS_and, PS_blank]
  have h4 := PS_acc _ (bytes bad) xs [] (Nat.le_refl _)
  rw [List.append_nil, hn] at h4
  rw [h4, hsz]
set_option maxHeartbeats 4000000 in
set_option maxRecDepth 100000 in
theorem places_calls (s : ByteArray) (n : Int) (w : World) (hg : ErrTy w) (hs : s.size ≤ 9223372036854775807) : Calls Tryd.prog 5 #[.string s, .int .i64 n] w fun e w' => e = .returned (.bool true) ∧ Below w.heap.size w w' := by
  have HG := Aside0.mk hg
  clear hg
  go_enter Tryd.func5, Tryd.ntmps5
  go_wp2_with fail
  refine (cut_P s 100 _ hs (by omega)).mono ?_
  rintro e w' ⟨rfl, rfl⟩
  have hle := cutB_le s 100
  generalize cutB s 100 = a at hle ⊢
  go_wp2_with fail
  refine (parse_P a _ (by omega)).mono ?_
  rintro e w1 hp
  cases hr : parseR a with
  | inr z =>
    obtain ⟨at_, c⟩ := z
    obtain ⟨b, hbl, rfl, hf, hb1⟩ := hp.no hr
    have HB1 := Aside0.mk hb1
    clear hp hr hf hb1
    go_wp2_with fail
    refine (awake_calls _ (ErrTy.below HG.out HB1.out)).mono ?_
    rintro e w2 ⟨rfl, hb2⟩
    have HB2 := Aside0.mk hb2
    clear hb2
    go_wp2
    go_ret
    exact ⟨rfl, below_then HB1.out HB1.out.size HB2.out⟩
  | inl xs =>
    obtain ⟨v1, rfl, ho, hb1⟩ := hp.ok hr
    obtain ⟨A, cp, rfl, _, _⟩ := Kd.R_reads ho
    have hlen : (1 : Int) ≤ (((xs.map toP).length : Nat) : Int) := by
      have := PS_ne _ _ _ _ (Nat.le_refl _) (parseR_ok hr).2
      have := List.length_pos_iff.mpr this
      simp
      omega
    generalize (xs.map toP).length = m at hlen ⊢
    have HB1 := Aside0.mk hb1
    have HR := Aside0.mk hr
    clear hp hr ho hb1
    by_cases hn0 : n < 0
    · go_wp2_with fail
      refine (awake_calls _ (ErrTy.below HG.out HB1.out)).mono ?_
      rintro e w2 ⟨rfl, hb2⟩
      have HB2 := Aside0.mk hb2
      clear hb2
      go_wp2
      go_ret
      exact ⟨rfl, below_then HB1.out HB1.out.size HB2.out⟩
    · by_cases hn2 : 2 < n
      · go_wp2_with fail
        refine (awake_calls _ (ErrTy.below HG.out HB1.out)).mono ?_
        rintro e w2 ⟨rfl, hb2⟩
        have HB2 := Aside0.mk hb2
        clear hb2
        go_wp2
        go_ret
        exact ⟨rfl, below_then HB1.out HB1.out.size HB2.out⟩
      · have h3 : n = 0 ∨ n = 1 ∨ n = 2 := by omega
        clear hn0 hn2
        rcases h3 with rfl | rfl | rfl
        · skip
          go_wp2_with fail
          refine (parse_P (a ++ sAnd ++ sB0) _ (by have : (a ++ sAnd ++ sB0).size = a.size + 5 + sB0.size := (by simp [sAnd, ByteArray.size_append]; rfl); rw [this]; have : sB0.size ≤ 20 := (by decide); omega)).mono ?_
          rintro e w2 hp
          have hz : sB0.size ≤ 20 := by decide
          have hzn : 0 ≤ sB0.size := by decide
          obtain ⟨b, hbl, rfl, hf, hb2⟩ := hp.no (places_plain a sB0 xs 0 HR.out hle hz (by rfl))
          generalize hq : a.size + 5 + sB0.size - 0 = q at hf
          have hqq : (a.size : Int) + 5 ≤ (q : Int) := by omega
          have HB2 := Aside0.mk hb2
          have HF := Aside0.mk hf
          clear hp hf hb2 hq hz hzn
          have HB12 := Aside0.mk (below_then (below_alloc HB1.out (.cells #[.string sB0, .string sB1, .string sB2] 9)) (below_size (below_alloc HB1.out _)) HB2.out)
          go_wp2_with fail
          refine (awake_calls _ (ErrTy.below HG.out HB12.out)).mono ?_
          rintro e w3 ⟨rfl, hb3⟩
          have HB3 := Aside0.mk hb3
          have HF3 := Aside0.mk (IsFault.keep HF.out hb3)
          clear hb3
          go_wp2_with fail
          refine (is_err 2 2 1 _ _ (IsFault.errIs HF3.out)).mono ?_
          rintro e w4 ⟨rfl, rfl⟩
          go_wp2_with fail
          refine (at_fault b _ _ _ _ HF3.out (ErrTy.below (ErrTy.below HG.out HB12.out) HB3.out)).mono ?_
          rintro e w5 ⟨rfl, hb5⟩
          have HB5 := Aside0.mk hb5
          clear hb5
          go_wp2
          go_ret
          exact ⟨rfl, below_then (below_then HB12.out HB12.out.size HB3.out) (Nat.le_trans HB12.out.size HB3.out.size) HB5.out⟩
        · skip
          go_wp2_with fail
          refine (parse_P (a ++ sAnd ++ sB1) _ (by have : (a ++ sAnd ++ sB1).size = a.size + 5 + sB1.size := (by simp [sAnd, ByteArray.size_append]; rfl); rw [this]; have : sB1.size ≤ 20 := (by decide); omega)).mono ?_
          rintro e w2 hp
          have hz : sB1.size ≤ 20 := by decide
          have hzn : 0 ≤ sB1.size := by decide
          obtain ⟨b, hbl, rfl, hf, hb2⟩ := hp.no (places_plain a sB1 xs 0 HR.out hle hz (by rfl))
          generalize hq : a.size + 5 + sB1.size - 0 = q at hf
          have hqq : (a.size : Int) + 5 ≤ (q : Int) := by omega
          have HB2 := Aside0.mk hb2
          have HF := Aside0.mk hf
          clear hp hf hb2 hq hz hzn
          have HB12 := Aside0.mk (below_then (below_alloc HB1.out (.cells #[.string sB0, .string sB1, .string sB2] 9)) (below_size (below_alloc HB1.out _)) HB2.out)
          go_wp2_with fail
          refine (awake_calls _ (ErrTy.below HG.out HB12.out)).mono ?_
          rintro e w3 ⟨rfl, hb3⟩
          have HB3 := Aside0.mk hb3
          have HF3 := Aside0.mk (IsFault.keep HF.out hb3)
          clear hb3
          go_wp2_with fail
          refine (is_err 2 2 1 _ _ (IsFault.errIs HF3.out)).mono ?_
          rintro e w4 ⟨rfl, rfl⟩
          go_wp2_with fail
          refine (at_fault b _ _ _ _ HF3.out (ErrTy.below (ErrTy.below HG.out HB12.out) HB3.out)).mono ?_
          rintro e w5 ⟨rfl, hb5⟩
          have HB5 := Aside0.mk hb5
          clear hb5
          go_wp2
          go_ret
          exact ⟨rfl, below_then (below_then HB12.out HB12.out.size HB3.out) (Nat.le_trans HB12.out.size HB3.out.size) HB5.out⟩
        · skip
          go_wp2_with fail
          refine (parse_P (a ++ sAnd ++ sB2) _ (by have : (a ++ sAnd ++ sB2).size = a.size + 5 + sB2.size := (by simp [sAnd, ByteArray.size_append]; rfl); rw [this]; have : sB2.size ≤ 20 := (by decide); omega)).mono ?_
          rintro e w2 hp
          have hz : sB2.size ≤ 20 := by decide
          have hzn : 9 ≤ sB2.size := by decide
          obtain ⟨b, hbl, rfl, hf, hb2⟩ := hp.no (places_plain a sB2 xs 9 HR.out hle hz (by rfl))
          generalize hq : a.size + 5 + sB2.size - 9 = q at hf
          have hqq : (a.size : Int) + 5 ≤ (q : Int) := by omega
          have HB2 := Aside0.mk hb2
          have HF := Aside0.mk hf
          clear hp hf hb2 hq hz hzn
          have HB12 := Aside0.mk (below_then (below_alloc HB1.out (.cells #[.string sB0, .string sB1, .string sB2] 9)) (below_size (below_alloc HB1.out _)) HB2.out)
          go_wp2_with fail
          refine (awake_calls _ (ErrTy.below HG.out HB12.out)).mono ?_
          rintro e w3 ⟨rfl, hb3⟩
          have HB3 := Aside0.mk hb3
          have HF3 := Aside0.mk (IsFault.keep HF.out hb3)
          clear hb3
          go_wp2_with fail
          refine (is_err 2 2 1 _ _ (IsFault.errIs HF3.out)).mono ?_
          rintro e w4 ⟨rfl, rfl⟩
          go_wp2_with fail
          refine (at_fault b _ _ _ _ HF3.out (ErrTy.below (ErrTy.below HG.out HB12.out) HB3.out)).mono ?_
          rintro e w5 ⟨rfl, hb5⟩
          have HB5 := Aside0.mk hb5
          clear hb5
          go_wp2
          go_ret
          exact ⟨rfl, below_then (below_then HB12.out HB12.out.size HB3.out) (Nat.le_trans HB12.out.size HB3.out.size) HB5.out⟩
end Go.Proofs.YthaapijjjgkacaaDoor.Mine
