/-
  value.Str walked: may a text be a value? Condition: none.
-/
import Derived.Test.YthaapijjjgkacaaDoorContains
import Derived.Test.YthaapijjjgkacaaDoorBackText
import Derived.Lib.DecodeN
import Derived.Laws.RangeString
set_option linter.unusedSimpArgs false
set_option linter.unusedVariables false
namespace Go.Proofs.YthaapijjjgkacaaDoor.Mine
open Go.RowKit Go.Proofs.YthaapijjjgkacaaDoorW.PrintWords Go.Lib
theorem decode_hi (s : ByteArray) (i : Nat) (hi : i < s.size) (h : 128 ≤ (s[i]'hi).toNat) : 128 ≤ (Utf8.decode s i).1 := by
  have hg : s.get! i = s[i]'hi := by simp [ByteArray.get!, hi]; rfl
  rw [decode_at, hg]
  generalize (s[i]'hi).toNat = b0 at h
  generalize (s.get! (i + 1)).toNat = b1
  generalize (s.get! (i + 2)).toNat = b2
  generalize (s.get! (i + 3)).toNat = b3
  unfold decodeN
  repeat' split
  all_goals first | (exfalso; omega) | (simp only; omega)
def badR (r : Nat) : Bool := decide (r < 32) || decide (126 < r)
theorem idx_chars (s : ByteArray) : ∀ (f i : Nat), s.size - i ≤ f → i ≤ s.size → (decide (0 ≤ idxFuncFrom badR true s f i) = !((s.data.toList.drop i).all isChar))
  | 0, i, hf, hi => by
    have : i = s.size := by omega
    have hd : s.data.toList.drop i = [] := List.drop_eq_nil_iff.2 (by rw [Array.length_toList]; exact Nat.le_of_eq this.symm)
    rw [hd]
    rfl
  | f + 1, i, hf, hi => by
    by_cases hlt : i < s.size
    · have hd : s.data.toList.drop i = (s[i]'hlt) :: s.data.toList.drop (i + 1) := by
        rw [List.drop_eq_getElem_cons (by rw [Array.length_toList]; exact hlt)]
        rfl
      rw [hd, List.all_cons]
      unfold idxFuncFrom
      rw [if_pos hlt]
      by_cases ha : (s[i]'hlt).toNat < 128
      · rw [decode_ascii s i hlt ha]
        have hc : badR (s[i]'hlt).toNat = !(isChar (s[i]'hlt)) := by
          simp only [badR, isChar, UInt8.le_iff_toNat_le]
          have e1 : (32 : UInt8).toNat = 32 := rfl
          have e2 : (126 : UInt8).toNat = 126 := rfl
          rw [e1, e2, Bool.eq_iff_iff]
          simp only [Bool.or_eq_true, decide_eq_true_eq, Bool.not_eq_true', decide_eq_false_iff_not]
          omega
        simp only [hc]
        cases hx : isChar (s[i]'hlt) with
        | false => simp
        | true =>
          simp only [Bool.not_true, Bool.true_and]
          rw [if_neg (by simp)]
          exact idx_chars s f (i + 1) (by omega) (by omega)
      · have hd := decode_hi s i hlt (by omega)
        have hb : badR (Utf8.decode s i).1 = true := by
          simp only [badR, Bool.or_eq_true, decide_eq_true_eq]
          omega
        have hx : isChar (s[i]'hlt) = false := by
          simp only [isChar, UInt8.le_iff_toNat_le]
          have e2 : (126 : UInt8).toNat = 126 := rfl
          rw [e2]
          simp
          omega
        rw [if_pos hb, hx]
        simp
    · have : i = s.size := by omega
      have hd : s.data.toList.drop i = [] := List.drop_eq_nil_iff.2 (by rw [Array.length_toList]; exact Nat.le_of_eq this.symm)
      rw [hd, idxFuncFrom_end _ _ _ _ _ hlt]
      rfl
theorem str_pred (w : World) : PredAt Tryd.prog 45 #[] encR badR w := fun W r _ => by
  unfold FnGives
  by_cases h1 : r < 32 <;> by_cases h2 : 126 < r
  all_goals
    have z1 : (r : Int) < 32 ↔ r < 32 := by omega
    have z2 : (126 : Int) < (r : Int) ↔ 126 < r := by omega
    go_enter Tryd.func45, Tryd.ntmps45
    go_wp2
    all_goals first | (exfalso; omega) | (go_ret; exact ⟨by simp [badR, h1, h2], 0, rfl⟩)
def strOk (s : ByteArray) : Bool := decide (s.size ≤ 40) && s.data.toList.all isChar
theorem str_calls (s : ByteArray) (w : World) : Calls Tryd.prog 21 #[.string s] w fun e w' => e = .returned (.bool (strOk s)) ∧ Below w.heap.size w w' := by
  have hC := fun W => Tryd.strings_ContainsFunc 45 #[] (enters_of Tryd.func45 (by kernel_rfl) rfl) badR s W (str_pred W)
  have hX : decide (0 ≤ Lib.idxFunc badR true s) = !(s.data.toList.all isChar) := idx_chars s s.size 0 (by omega) (by omega)
  by_cases h : s.size ≤ 40
  · have h1 : decide ((s.size : Int) ≤ 40) = true := decide_eq_true (by omega)
    have h2 : decide (s.size ≤ 40) = true := decide_eq_true h
    have HX := Aside0.mk hX
    have HC := Aside0.mk hC
    clear hX hC
    go_enter Tryd.func21, Tryd.ntmps21
    go_wp2_with fail
    refine (HC.out _).mono ?_
    rintro e w1 ⟨rfl, hb⟩
    rw [HX.out]
    go_wp2
    go_ret
    exact ⟨by simp [strOk, h2], hb⟩
  · have h1 : decide ((s.size : Int) ≤ 40) = false := decide_eq_false (by omega)
    have h2 : decide (s.size ≤ 40) = false := decide_eq_false h
    clear hX hC
    go_enter Tryd.func21, Tryd.ntmps21
    go_wp2
    go_ret
    exact ⟨by simp [strOk, h2], Below.refl _ _⟩
end Go.Proofs.YthaapijjjgkacaaDoor.Mine
