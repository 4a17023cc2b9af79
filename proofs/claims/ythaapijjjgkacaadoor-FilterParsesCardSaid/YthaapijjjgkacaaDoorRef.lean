/-
  The reference's parser of filters, walked: blanks, bad, letter, digit, in terms of the plain states. Conditions: the text at most 1000 bytes.
-/
import Derived.Test.YthaapijjjgkacaaDoorParse
set_option linter.unusedSimpArgs false
set_option linter.unusedVariables false
namespace Go.Proofs.YthaapijjjgkacaaDoor.Mine
open Go.RowKit Go.Proofs.YthaapijjjgkacaaDoorW.PrintWords Go.Proofs.YthaapijjjgkacaaDoorW.PrintLast Go.Proofs.YthaapijjjgkacaaDoorW.PrintMore
open Go.Proofs.YthaapijjjgkacaaDoor.PFilterReads
/-- A spot as Go has it. -/
def spotV (s : ByteArray) (i : Int) (b : Bool) : Value := .agg #[.string s, .int .i64 i, .bool b]
def spotC (s : ByteArray) (i : Int) (b : Bool) : Obj := .cells #[.string s, .int .i64 i, .bool b] 83 (0, 0)
theorem rbad_calls (s : ByteArray) (i j : Int) (b : Bool) (w : World) :
    Calls Tryd.prog 69 #[spotV s i b, .int .i64 j] w fun e w' => e = .returned (spotV s (if b then i else j) true) ∧ Below w.heap.size w w' := by
  unfold spotV
  cases b with
  | false =>
    go_enter Tryd.func69, Tryd.ntmps69
    go_wp2
    refine bodyPost_ret (v := .agg #[.string s, .int .i64 j, .bool true]) (by simp [results, Tryd.results69, go_sem]) rfl ⟨rfl, below_alloc (below_alloc (Below.refl _ _) _) _⟩
  | true =>
    go_enter Tryd.func69, Tryd.ntmps69
    go_wp2
    refine bodyPost_ret (v := .agg #[.string s, .int .i64 i, .bool true]) (by simp [results, Tryd.results69, go_sem]) rfl ⟨rfl, below_alloc (below_alloc (Below.refl _ _) _) _⟩
theorem rletter_calls (c : UInt8) (w : World) : Calls Tryd.prog 71 #[.int .u8 (c.toNat : Int)] w fun e w' => e = .returned (.bool (isL c)) ∧ w = w' := by
  rw [← isLet_u]
  generalize (c.toNat : Int) = n
  unfold isLet
  by_cases h1 : 97 ≤ n
  · by_cases h2 : n ≤ 122
    · go_enter Tryd.func71, Tryd.ntmps71
      go_wp2
      go_ret
      exact ⟨by simp [h1, h2], rfl⟩
    · go_enter Tryd.func71, Tryd.ntmps71
      go_wp2
      go_ret
      exact ⟨by simp [h1, h2], rfl⟩
  · go_enter Tryd.func71, Tryd.ntmps71
    go_wp2
    go_ret
    exact ⟨by rw [show (decide (97 ≤ n) && decide (n ≤ 122)) = false by rw [decide_eq_false (by omega : ¬ _)]; rfl]; rfl, rfl⟩
theorem rdigit_calls (c : UInt8) (w : World) : Calls Tryd.prog 72 #[.int .u8 (c.toNat : Int)] w fun e w' => e = .returned (.bool (isD c)) ∧ w = w' := by
  rw [← isDig_u]
  generalize (c.toNat : Int) = n
  unfold isDig
  by_cases h1 : 48 ≤ n
  · by_cases h2 : n ≤ 57
    · go_enter Tryd.func72, Tryd.ntmps72
      go_wp2
      go_ret
      exact ⟨by simp [h1, h2], rfl⟩
    · go_enter Tryd.func72, Tryd.ntmps72
      go_wp2
      go_ret
      exact ⟨by simp [h1, h2], rfl⟩
  · go_enter Tryd.func72, Tryd.ntmps72
    go_wp2
    go_ret
    exact ⟨by rw [show (decide (48 ≤ n) && decide (n ≤ 57)) = false by rw [decide_eq_false (by omega : ¬ _)]; rfl]; rfl, rfl⟩
/-- Where a spot stands. -/
def spI (s : ByteArray) (st : St) : Int := ((s.size - (st.bad.getD st.l.length) : Nat) : Int)
def stV (s : ByteArray) (st : St) : Value := spotV s (spI s st) st.bad.isSome
set_option maxHeartbeats 1000000 in
set_option maxRecDepth 100000 in
theorem rblanks_calls (s : ByteArray) (st : St) (w : World) (hs : s.size ≤ 1000) (hok : st.ok (bytes s)) :
    Calls Tryd.prog 40 #[stV s st] w fun e w' => e = .returned (stV s (blanksS st)) ∧ Below w.heap.size w w' := by
  obtain ⟨l, bad⟩ := st
  cases bad with
  | some n =>
    show Calls _ _ #[spotV s ((s.size - n : Nat) : Int) true] w fun e w' => e = .returned (spotV s ((s.size - n : Nat) : Int) true) ∧ _
    generalize ((s.size - n : Nat) : Int) = i
    unfold spotV
    go_enter Tryd.func40, Tryd.ntmps40
    go_wp2
    go_loopg [] 1 (fun k wr => wr = (w.alloc (.cells #[.string s, .int .i64 i, .bool true] 83)).alloc (.cells #[.string ⟨#[]⟩, .int .i64 0, .bool false] 83))
    case atStart => rfl
    case round =>
      subst hrel
      go_wp2
      refine bodyPost_ret (v := .agg #[.string s, .int .i64 i, .bool true]) (by simp [results, Tryd.results40, go_sem]) rfl ⟨rfl, below_alloc (below_alloc (Below.refl _ _) _) _⟩
  | none => 
    have hsuf : l <:+ bytes s := hok.1
    have hle : l.length ≤ s.size := P_le hok
    show Calls _ _ #[spotV s ((s.size - l.length : Nat) : Int) false] w fun e w' => e = .returned (spotV s ((s.size - (skip l).length : Nat) : Int) false) ∧ _
    have hi0 : s.size - l.length ≤ s.size := Nat.sub_le _ _
    have hd0 : dropB s (s.size - l.length) = l := (suf_drop hsuf).symm
    have HG := Aside0.mk (show ((s.size - (skip l).length : Nat) : Int) = ((s.size - (skip (dropB s (s.size - l.length))).length : Nat) : Int) by rw [hd0])
    generalize ((s.size - (skip l).length : Nat) : Int) = z at HG ⊢
    generalize s.size - l.length = i0 at hi0 HG ⊢
    clear hsuf hle hok hd0
    unfold spotV
    go_enter Tryd.func40, Tryd.ntmps40
    go_wp2
    go_loopg [] (s.size - i0 + 1) (fun k wr => ∃ i : Nat, Aside0 (i ≤ s.size ∧ skip (dropB s i) = skip (dropB s i0) ∧ s.size - i < k) ∧ wr = (w.alloc (.cells #[.string s, .int .i64 (i : Int), .bool false] 83)).alloc (.cells #[.string ⟨#[]⟩, .int .i64 0, .bool false] 83))
    case atStart => exact ⟨i0, ⟨hi0, rfl, by omega⟩, rfl⟩
    case round =>
      obtain ⟨i, HM, rfl⟩ := hrel
      by_cases hi : i < s.size
      · obtain ⟨c, hc⟩ : ∃ c, s[i]'hi = c := ⟨_, rfl⟩
        have hdc := dropB_cons hi
        rw [hc] at hdc
        have HD := Aside0.mk hdc
        clear hdc
        have hx : ∀ h : i < s.size, s[i]'h = c := fun _ => hc
        clear hc
        have p1 : (0 : Int) ≤ (i : Int) := by omega
        have p2 : (i : Int) < (s.size : Int) := by omega
        by_cases h32 : c = 32
        · subst h32
          go_wp2
          go_roundg (gk - 1)
          case measure => have := HM.out; omega
          case rel => exact ⟨i + 1, ⟨by omega, by have := HM.out; rw [← this.2.1, HD.out]; simp [skip], by have := HM.out; omega⟩, rfl⟩
        · have e1 : ((c.toNat : Int) == (32 : Int)) = decide (c = 32) := c_eq (n := 32) (by decide)
          rw [decide_eq_false h32] at e1
          go_wp2
          refine bodyPost_ret (v := .agg #[.string s, .int .i64 z, .bool false]) (by simp [results, Tryd.results40, go_sem]; rw [HG.out, ← HM.out.2.1, HD.out]; simp [skip, h32]; have h9 := congrArg List.length HD.out; rw [dropB_len] at h9; simp at h9; omega) rfl ⟨rfl, below_alloc (below_alloc (Below.refl _ _) _) _⟩
      · have p2 : decide ((i : Int) < (s.size : Int)) = false := decide_eq_false (by omega)
        have hiz : i = s.size := by have := HM.out; omega
        go_wp2
        refine bodyPost_ret (v := .agg #[.string s, .int .i64 z, .bool false]) (by simp [results, Tryd.results40, go_sem]; rw [HG.out, ← HM.out.2.1, dropB_nil (by omega)]; simp [skip, hiz]) rfl ⟨rfl, below_alloc (below_alloc (Below.refl _ _) _) _⟩
end Go.Proofs.YthaapijjjgkacaaDoor.Mine
