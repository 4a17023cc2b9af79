/-
  The contract of the filter parser's number, in terms of Plain. Conditions: the parser's block, the text at most 1000 bytes.
-/
import Derived.Test.YthaapijjjgkacaaDoorStates
namespace Go.Proofs.YthaapijjjgkacaaDoor.Mine
open Go.RowKit Go.Proofs.YthaapijjjgkacaaDoorW.PrintWords Go.Proofs.YthaapijjjgkacaaDoorW.PrintLast Go.Proofs.YthaapijjjgkacaaDoorW.PrintMore
open Go.Proofs.YthaapijjjgkacaaDoor.PFilterReads

theorem valD_snoc (ds : List UInt8) (c : UInt8) : valD (ds ++ [c]) = 10 * valD ds + ((c.toNat : Int) - 48) := by simp [valD]
theorem valD_go (ds : List UInt8) : ∀ n : Int, 0 ≤ n → (∀ c ∈ ds, isD c = true) → 0 ≤ ds.foldl (fun (n : Int) (c : UInt8) => 10 * n + ((c.toNat : Int) - 48)) n ∧ ds.foldl (fun (n : Int) (c : UInt8) => 10 * n + ((c.toNat : Int) - 48)) n < (n + 1) * 10 ^ ds.length := by
  induction ds with
  | nil => intro n h0 _; simp; omega
  | cons c r ih =>
    intro n h0 h
    have hc := h c (by simp)
    rw [← isDig_u] at hc
    simp only [isDig, decide_eq_true_eq] at hc
    obtain ⟨h1, h2⟩ := ih (10 * n + ((c.toNat : Int) - 48)) (by omega) (fun x hx => h x (by simp [hx]))
    refine ⟨h1, Int.lt_of_lt_of_le h2 ?_⟩
    rw [List.length_cons, Int.pow_succ, Int.mul_comm (10 ^ r.length) 10, ← Int.mul_assoc]
    exact Int.mul_le_mul_of_nonneg_right (by omega) (Int.pow_nonneg (by omega))
theorem valD_bounds (ds : List UInt8) (h : ∀ c ∈ ds, isD c = true) : 0 ≤ valD ds ∧ valD ds < 10 ^ ds.length := by
  have := valD_go ds 0 (by omega) h
  unfold valD
  rw [show ((0 : Int) + 1) * 10 ^ ds.length = 10 ^ ds.length by omega] at this
  exact this
theorem digit_f (c : UInt8) : filter_digit.f (c.toNat : Int) = some (isD c) := by
  rw [← isDig_u]
  unfold filter_digit.f isDig
  split
  · congr 1
    rw [decide_eq_decide]
    omega
  · simp
    omega
theorem stop_f (s : ByteArray) (a b : Int) : filter_parser_stop.f s a (-1) b = some (s, a, b) := by
  unfold filter_parser_stop.f
  rw [if_pos (by omega)]

theorem number_end (s : ByteArray) (first at_ frm : Nat) (sg : Int) (hsg : sg = 1 ∨ sg = -1) (pre : List UInt8) (hs : s.size ≤ 1000) (_hfr : frm ≤ s.size)
    (h0 : first ≤ at_) (h1 : at_ ≤ s.size) (hp : pre.length = at_ - first) (h10 : pre.length ≤ 10) (hd : dropB s first = pre ++ dropB s at_) (hpd : ∀ c ∈ pre, isD c = true)
    (hend : (dropB s at_).takeWhile isD = []) (k : Nat) :
    filter_parser_number.j3 (k + 1) ((s.size - frm : Nat) : Int) sg (valD pre) (first : Int) false s (at_ : Int) (-1)
      = some ((numD frm sg (dropB s first)).1, s, ((s.size - (numD frm sg (dropB s first)).2.l.length : Nat) : Int), badI s (numD frm sg (dropB s first)).2.bad) := by
  have htw : (dropB s first).takeWhile isD = pre := by
    rw [hd, List.takeWhile_append_of_pos hpd, hend, List.append_nil]
  have hdw : (dropB s first).dropWhile isD = dropB s at_ := by
    rw [hd, List.dropWhile_append_of_pos hpd]
    cases hx : dropB s at_ with
    | nil => rfl
    | cons c r =>
      rw [hx] at hend
      have : isD c = false := by
        rw [List.takeWhile_cons] at hend
        cases hc : isD c with
        | true => rw [hc] at hend; simp at hend
        | false => rfl
      rw [List.dropWhile_cons, this]
      simp
  have hb := valD_bounds pre hpd
  have hbig : valD pre ≤ 10000000000 := by
    have h3 : (10 : Int) ^ pre.length ≤ 10 ^ 10 := by exact_mod_cast Nat.pow_le_pow_right (by omega : 0 < 10) h10
    have : (10 : Int) ^ 10 = 10000000000 := by decide
    omega
  have hat : ((s.size - (dropB s at_).length : Nat) : Int) = (at_ : Int) := by rw [dropB_len]; omega
  have hw : wrap64 (sg * valD pre) = sg * valD pre := by
    rcases hsg with rfl | rfl
    · exact wrap_in (by omega) (by omega)
    · exact wrap_in (by omega) (by omega)
  have key : ∀ b : Bool, (b = true ↔ numBad sg (dropB s first)) → (if b = true then (some (sg * valD pre, s, (at_ : Int), ((s.size - frm : Nat) : Int))) else (some (sg * valD pre, s, (at_ : Int), (-1 : Int)))) = some ((numD frm sg (dropB s first)).1, s, ((s.size - (numD frm sg (dropB s first)).2.l.length : Nat) : Int), badI s (numD frm sg (dropB s first)).2.bad) := by
    intro b hbb
    unfold numD
    rw [htw, if_neg (show ¬ 10 < pre.length by omega), hdw]
    by_cases hbad : numBad sg (dropB s first)
    · rw [if_pos (hbb.mpr hbad), if_pos hbad]
      simp only [hat]
      rfl
    · rw [if_neg (fun h => hbad (hbb.mp h)), if_neg hbad]
      simp only [hat]
      rfl
  simp only [filter_parser_number.j3, hw, stop_f]
  rw [if_neg (by simp)]
  simp only [Option.bind_some]
  unfold numBad at key
  rw [htw] at key
  by_cases e1 : (at_ : Int) = (first : Int)
  · rw [if_pos e1]
    have := key true (by simp; exact Or.inl (List.eq_nil_of_length_eq_zero (by omega)))
    simpa using this
  · have hpne : pre ≠ [] := by intro h; rw [h] at hp; simp at hp; omega
    rw [if_neg e1]
    have hneg : ∀ (x : Prop), x = (sg < 0 ∧ valD pre = 0) → ((x) ↔ (if sg < 0 then (if valD pre = 0 then True else False) else False)) := by
      intro x hx
      rw [hx]
      by_cases a : sg < 0 <;> by_cases b : valD pre = 0 <;> simp [a, b]
    have tail : ∀ (q : Prop), (¬ q) → (q = (1 < pre.length ∧ (dropB s first).head? = some 48)) →
        (if sg < 0 then (if valD pre = 0 then (some (sg * valD pre, s, (at_ : Int), ((s.size - frm : Nat) : Int))) else (some (sg * valD pre, s, (at_ : Int), (-1 : Int)))) else (some (sg * valD pre, s, (at_ : Int), (-1 : Int)))) = some ((numD frm sg (dropB s first)).1, s, ((s.size - (numD frm sg (dropB s first)).2.l.length : Nat) : Int), badI s (numD frm sg (dropB s first)).2.bad) := by
      intro q hq hqe
      rw [hqe] at hq
      have := key (decide (sg < 0 ∧ valD pre = 0)) (by
        simp only [decide_eq_true_eq]
        constructor
        · exact fun h => Or.inr (Or.inr h)
        · rintro (h | h | h)
          · exact absurd h hpne
          · exact absurd h hq
          · exact h)
      rw [← this]
      by_cases a : sg < 0 <;> by_cases b : valD pre = 0 <;> simp [a, b]
    rw [wrap_in (by omega) (by omega)]
    by_cases e2 : (at_ : Int) - (first : Int) > 1
    · rw [if_pos e2, if_pos (by omega), if_pos (by omega)]
      obtain ⟨c, r, hc⟩ : ∃ c r, dropB s first = c :: r := ⟨_, _, dropB_cons (by omega)⟩
      obtain ⟨_, hbt, _⟩ := bt_cons hc
      rw [hbt]
      by_cases e3 : (c.toNat : Int) = 48
      · rw [if_pos e3]
        have := key true (by simp; exact Or.inr (Or.inl ⟨by omega, by rw [hc]; simp; exact UInt8.toNat_inj.mp (by simpa using (by omega : c.toNat = 48))⟩))
        simpa using this
      · rw [if_neg e3]
        refine tail _ ?_ rfl
        rintro ⟨_, h⟩
        rw [hc] at h
        simp at h
        rw [h] at e3
        exact e3 rfl
    · rw [if_neg e2]
      refine tail _ ?_ rfl
      rintro ⟨h, _⟩
      omega

theorem number_l0 (s : ByteArray) (first frm : Nat) (sg : Int) (hsg : sg = 1 ∨ sg = -1) (hs : s.size ≤ 1000) (hfr : frm ≤ s.size) (d : Nat) : ∀ (k at_ : Nat) (pre : List UInt8),
    first ≤ at_ → at_ ≤ s.size → pre.length = at_ - first → pre.length ≤ 10 → dropB s first = pre ++ dropB s at_ → (∀ c ∈ pre, isD c = true) → s.size - at_ = d → 2 * d + 1 < k →
    filter_parser_number.l0 k ((s.size - frm : Nat) : Int) sg (valD pre) (first : Int) s (at_ : Int) (-1)
      = some ((numD frm sg (dropB s first)).1, s, ((s.size - (numD frm sg (dropB s first)).2.l.length : Nat) : Int), badI s (numD frm sg (dropB s first)).2.bad) := by
  induction d with
  | zero =>
    intro k at_ pre h0 h1 hp h10 hd hpd he hk
    obtain ⟨k, rfl⟩ : ∃ m, k = m + 2 := ⟨k - 2, by omega⟩
    simp only [filter_parser_number.l0]
    rw [if_neg (by omega)]
    exact number_end s first at_ frm sg hsg pre hs hfr h0 h1 hp h10 hd hpd (by rw [dropB_nil (by omega)]; rfl) k
  | succ d ih =>
    intro k at_ pre h0 h1 hp h10 hd hpd he hk
    obtain ⟨k, rfl⟩ : ∃ m, k = m + 2 := ⟨k - 2, by omega⟩
    have hlt : at_ < s.size := by omega
    have hc := dropB_cons hlt
    generalize hcc : s[at_]'hlt = c at hc
    obtain ⟨_, hbt, _⟩ := bt_cons hc
    simp only [filter_parser_number.l0]
    rw [if_pos (by omega), if_pos (by omega), hbt, digit_f]
    simp only [Option.bind_some]
    cases hdc : isD c with
    | false => exact number_end s first at_ frm sg hsg pre hs hfr h0 h1 hp h10 hd hpd (by rw [hc, List.takeWhile_cons, hdc]; simp) k
    | true =>
      have hdd := hdc
      rw [← isDig_u] at hdd
      simp only [isDig, decide_eq_true_eq] at hdd
      simp only [filter_parser_number.j3, if_true, stop_f, Option.bind_some]
      rw [wrap_in (by omega) (by omega)]
      by_cases h11 : (at_ : Int) - (first : Int) ≥ 10
      · rw [if_pos h11]
        have h12 : 10 < ((dropB s first).takeWhile isD).length := by
          rw [hd, List.takeWhile_append_of_pos hpd, hc, List.takeWhile_cons, if_pos hdc]
          simp
          omega
        have h13 : (dropB s first).drop 10 = dropB s at_ := by
          rw [hd, ← show pre.length = 10 by omega, List.drop_left]
        unfold numD
        rw [if_pos h12]
        simp only [h13, dropB_len]
        have : ((s.size - (s.size - at_) : Nat) : Int) = (at_ : Int) := by omega
        rw [this]
        rfl
      · have hb := valD_bounds pre hpd
        have hbig : valD pre ≤ 1000000000 := by
          have h3 : (10 : Int) ^ pre.length ≤ 10 ^ 9 := by exact_mod_cast Nat.pow_le_pow_right (by omega : 0 < 10) (by omega : pre.length ≤ 9)
          have : (10 : Int) ^ 9 = 1000000000 := by decide
          omega
        rw [if_neg h11, if_pos (by omega), if_pos (by omega), hbt, Int.emod_eq_of_lt (by omega) (by omega), wrap_in (x := 10 * valD pre) (by omega) (by omega), wrap_in (x := 10 * valD pre + ((c.toNat : Int) - 48)) (by omega) (by omega), wrap_in (x := (at_ : Int) + 1) (by omega) (by omega),
          ← valD_snoc, show (at_ : Int) + 1 = ((at_ + 1 : Nat) : Int) by omega]
        refine ih k (at_ + 1) (pre ++ [c]) (by omega) (by omega) (by simp; omega) (by simp; omega) (by rw [hd, hc]; simp) ?_ (by omega) (by omega)
        intro x hx
        rcases List.mem_append.mp hx with hx | hx
        · exact hpd x hx
        · simp at hx; subst hx; exact hdc

theorem number_f {s : ByteArray} (hs : s.size ≤ 1000) {i : Nat} (hi : i ≤ s.size) :
    filter_parser_number.f (2 * s.size + 10) s (i : Int) (-1) = some ((numL (skip (dropB s i))).1, s, ((s.size - (numL (skip (dropB s i))).2.l.length : Nat) : Int), badI s (numL (skip (dropB s i))).2.bad) := by
  have hsuf : skip (dropB s i) <:+ bytes s := (skip_suf _).trans (drop_suf s i)
  have hd := suf_drop hsuf
  have hle : (skip (dropB s i)).length ≤ s.size := by have := hsuf.length_le; rwa [bytes_len] at this
  have hbl : filter_parser_blanks.f (2 * s.size + 10) s (i : Int) (-1) = some (s, ((s.size - (skip (dropB s i)).length : Nat) : Int), -1) := blanks_l0 s hs (s.size - i) _ i hi rfl (by omega)
  simp only [filter_parser_number.f]
  rw [hbl]
  simp only [Option.bind_some]
  generalize skip (dropB s i) = L at hd hle ⊢
  rw [if_neg (by omega)]
  have v0 : (0 : Int) = valD [] := rfl
  cases L with
  | nil =>
    rw [if_neg (by simp)]
    have e : filter_parser_number.j0 (2 * s.size + 10) ((s.size - ([] : List UInt8).length : Nat) : Int) 1 0 false s ((s.size - ([] : List UInt8).length : Nat) : Int) (-1) = filter_parser_number.l0 (2 * s.size + 8) ((s.size - ([] : List UInt8).length : Nat) : Int) 1 0 ((s.size - ([] : List UInt8).length : Nat) : Int) s ((s.size - ([] : List UInt8).length : Nat) : Int) (-1) := by
      rw [show 2 * s.size + 10 = (2 * s.size + 8) + 1 + 1 from rfl]
      simp [filter_parser_number.j0, filter_parser_number.j1]
    rw [e, v0]
    have h := number_l0 s (s.size - ([] : List UInt8).length) ([] : List UInt8).length 1 (Or.inl rfl) hs (by simp) (s.size - (s.size - ([] : List UInt8).length)) (2 * s.size + 8) (s.size - ([] : List UInt8).length) [] (Nat.le_refl _) (by omega) (by simp) (by simp) (by simp) (by simp) rfl (by omega)
    rw [← hd] at h
    exact h
  | cons c r =>
    have hlt : (s.size - (c :: r).length) < s.size := by simp at hle ⊢; omega
    obtain ⟨_, hbt, h3⟩ := bt_cons hd.symm
    rw [if_pos (by omega), if_pos (by omega), hbt]
    by_cases h45 : c = 45
    · have e : filter_parser_number.j0 (2 * s.size + 10) ((s.size - (c :: r).length : Nat) : Int) 1 0 ((c.toNat : Int) == 45) s ((s.size - (c :: r).length : Nat) : Int) (-1) = filter_parser_number.l0 (2 * s.size + 8) ((s.size - (c :: r).length : Nat) : Int) (-1) 0 ((s.size - (c :: r).length + 1 : Nat) : Int) s ((s.size - (c :: r).length + 1 : Nat) : Int) (-1) := by
        rw [show 2 * s.size + 10 = (2 * s.size + 8) + 1 + 1 from rfl]
        rw [show ((c.toNat : Int) == 45) = true by rw [h45]; rfl]
        simp only [filter_parser_number.j0, filter_parser_number.j1, if_true]
        rw [wrap_in (by omega) (by omega), show ((s.size - (c :: r).length : Nat) : Int) + 1 = ((s.size - (c :: r).length + 1 : Nat) : Int) by omega]
      rw [e, v0]
      have h := number_l0 s (s.size - (c :: r).length + 1) (c :: r).length (-1) (Or.inr rfl) hs hle (s.size - (s.size - (c :: r).length + 1)) (2 * s.size + 8) (s.size - (c :: r).length + 1) [] (Nat.le_refl _) (by omega) (by simp) (by simp) (by simp) (by simp) rfl (by omega)
      rw [h3] at h
      unfold numL
      simp only [if_pos h45]
      exact h
    · have e : filter_parser_number.j0 (2 * s.size + 10) ((s.size - (c :: r).length : Nat) : Int) 1 0 ((c.toNat : Int) == 45) s ((s.size - (c :: r).length : Nat) : Int) (-1) = filter_parser_number.l0 (2 * s.size + 8) ((s.size - (c :: r).length : Nat) : Int) 1 0 ((s.size - (c :: r).length : Nat) : Int) s ((s.size - (c :: r).length : Nat) : Int) (-1) := by
        rw [show 2 * s.size + 10 = (2 * s.size + 8) + 1 + 1 from rfl]
        have : ((c.toNat : Int) == 45) = false := by rw [show (45 : Int) = ((45 : Nat) : Int) from rfl, c_eq (by decide)]; simpa using h45
        rw [this]
        simp [filter_parser_number.j0, filter_parser_number.j1]
      rw [e, v0]
      have h := number_l0 s (s.size - (c :: r).length) (c :: r).length 1 (Or.inl rfl) hs hle (s.size - (s.size - (c :: r).length)) (2 * s.size + 8) (s.size - (c :: r).length) [] (Nat.le_refl _) (by omega) (by simp) (by simp) (by simp) (by simp) rfl (by omega)
      rw [← hd] at h
      unfold numL
      simp only [if_neg h45]
      exact h
theorem number_bad {s : ByteArray} (i : Int) {b : Int} (hb : 0 ≤ b) : filter_parser_number.f 1 s i b = some (0, s, i, b) := by
  simp only [filter_parser_number.f]
  rw [blanks_bad i hb]
  simp only [Option.bind_some]
  rw [if_pos hb]
section
variable {g : Nat} {s : ByteArray} {w0 w : World} {st : St}
theorem number_P (hs : s.size ≤ 1000) (hI : IsP w0 w g s st) (hB : Below w0.heap.size w0 w) :
    Calls Tryd.prog 64 #[.pointer (some ⟨g, 0, none⟩)] w (PostP w0 w g s (.int .i64 (numberS st).1) (numberS st).2) := by
  obtain ⟨hok, hi⟩ := hI
  have hok2 := numberS_ok hok
  obtain ⟨l, b⟩ := st
  cases b with
  | none =>
    have h := number_f hs (Nat.sub_le s.size l.length)
    rw [P_drop (st := ⟨l, none⟩) hok] at h
    exact (filter_parser_number.calls _ g s _ _ _ _ _ _ w0 w hi hB h).mono fun e w' ⟨he, h1, h2, h3⟩ => ⟨he, ⟨hok2, h1⟩, h2, h3⟩
  | some n =>
    exact (filter_parser_number.calls _ g s _ _ _ _ _ _ w0 w hi hB (number_bad _ (badI_nn s n))).mono fun e w' ⟨he, h1, h2, h3⟩ => ⟨he, ⟨hok2, h1⟩, h2, h3⟩
end
end Go.Proofs.YthaapijjjgkacaaDoor.Mine
