/- Texts of one claim, one behind the other, made short by a program. -/
import Derived.Test.YtlokmijoaocofaaGreatDoorMP18
set_option linter.unusedSimpArgs false
set_option linter.unusedVariables false
section
namespace Go.Proofs.YtlokmijoaocofaaGreatDoor.Mine
open Go.RowKit YtlokmijoaocofaaGreatDoorW.PrintWords YtlokmijoaocofaaGreatDoorW.PrintLast YtlokmijoaocofaaGreatDoorW.PrintMore
open PBoardPlays
theorem tw_isD (l : List UInt8) : ∀ c ∈ l.takeWhile isD, isD c = true := List.all_eq_true.1 (List.all_takeWhile ..)
theorem dw_head (p : UInt8 → Bool) {c : UInt8} {r : List UInt8} : ∀ {l : List UInt8}, l.dropWhile p = c :: r → p c = false
 | [], h => by simp at h
 | x :: l, h => by
  rw [List.dropWhile_cons] at h
  split at h
  ·
   exact dw_head p h
  ·
   rename_i hx
   injection h with h1 _
   rw [← h1]
   simpa using hx
theorem tw_at {s : ByteArray} {f : Nat} {T : List UInt8} (hT : T = (dropB s f).takeWhile isD) (k : Nat) (hk : k < T.length) : ∃ h : f + k < s.size, s[f + k]'h = T[k] := by
 have hp : T <+: dropB s f := by rw [hT]; exact List.takeWhile_prefix _
 have hl := hp.length_le
 rw [dropB_len] at hl
 have h : f + k < s.size := by omega
 refine ⟨h, ?_⟩
 have e := hp.getElem hk
 rw [e]
 unfold dropB
 rw [List.getElem_drop]
 rfl
theorem digit_more {s : ByteArray} {f J j : Nat} {T : List UInt8} (hT : T = (dropB s f).takeWhile isD) (hJ : J = min T.length 11) (h0 : f ≤ j) (h1 : j < f + J) :
 ∃ (h : j < s.size) (c : UInt8), s[j]'h = c ∧ isD c = true ∧ valD (T.take (j + 1 - f)) = 10 * valD (T.take (j - f)) + ((c.toNat : Int) - 48) := by
 have hk : j - f < T.length := by omega
 obtain ⟨h, e⟩ := tw_at hT (j - f) hk
 have hj : f + (j - f) = j := by omega
 refine ⟨by omega, T[j - f], ?_, ?_, ?_⟩
 ·
  rw [← e]
  congr 1
  exact hj.symm
 ·
  have := tw_isD (dropB s f) T[j - f] (by rw [← hT]; exact List.getElem_mem _)
  exact this
 ·
  rw [show j + 1 - f = (j - f) + 1 by omega, List.take_succ_eq_append_getElem hk, valD_snoc]
theorem digit_stop {s : ByteArray} {f J j : Nat} {T : List UInt8} (hT : T = (dropB s f).takeWhile isD) (hJ : J = min T.length 11) (hj : j = f + J) (hs : j < s.size) (hd : isD (s[j]'hs) = true) : J = 11 := by
 apply Classical.byContradiction
 intro hn
 have hJT : J = T.length := by omega
 have e : dropB s f = T ++ (dropB s f).dropWhile isD := by rw [hT]; exact (List.takeWhile_append_dropWhile).symm
 have e2 : dropB s j = (dropB s f).dropWhile isD := by
  have h3 : dropB s j = (dropB s f).drop J := by unfold dropB; rw [List.drop_drop, hj]
  rw [h3, hJT]
  conv => lhs; rw [e]
  simp
 rw [dropB_cons hs] at e2
 have := dw_head isD e2.symm
 rw [hd] at this
 cases this
theorem digit_first {s : ByteArray} {f : Nat} {T : List UInt8} (hT : T = (dropB s f).takeWhile isD) (h : 0 < T.length) : ∃ h : f < s.size, (dropB s f).head? = some (s[f]'h) := by
 obtain ⟨h2, _⟩ := tw_at hT 0 h
 have h3 : f < s.size := h2
 refine ⟨h3, ?_⟩
 rw [dropB_cons h3]
 rfl
theorem digit_val {s : ByteArray} {f : Nat} {T : List UInt8} (hT : T = (dropB s f).takeWhile isD) (k : Nat) (hk : k ≤ 11) : 0 ≤ valD (T.take k) ∧ valD (T.take k) ≤ 100000000000 := by
 have hb := valD_bounds (T.take k) (fun c hc => tw_isD (dropB s f) c (by rw [← hT]; exact List.mem_of_mem_take hc))
 have hl : (T.take k).length ≤ 11 := Nat.le_trans (List.length_take_le _ _) hk
 have h3 : (10 : Int) ^ (T.take k).length ≤ 10 ^ 11 := by exact_mod_cast Nat.pow_le_pow_right (by omega : 0 < 10) hl
 have : (10 : Int) ^ 11 = 100000000000 := by decide
 omega
theorem stV_of_bad {s : ByteArray} {st : St} {n : Nat} (h : st.bad = some n) : stV s st = .agg #[.string s, .int .i64 ((s.size - n : Nat) : Int), .bool true] := by
 unfold stV spI spotV
 rw [h]
 rfl
def numRV (s : ByteArray) (x : Int × St) : Value := .tuple #[stV s x.2, .int .i64 (if x.2.bad.isSome then 0 else x.1)]
theorem numRV_bad {s : ByteArray} {frm : Nat} {sg : Int} {d T : List UInt8} (hT : T = d.takeWhile isD) (h : T = [] ∨ 10 < T.length ∨ (1 < T.length ∧ d.head? = some 48) ∨ (sg < 0 ∧ valD T = 0)) :
 numRV s (numD frm sg d) = .tuple #[.agg #[.string s, .int .i64 ((s.size - frm : Nat) : Int), .bool true], .int .i64 0] := by
 have hb : (numD frm sg d).2.bad = some frm := by
  unfold numD
  rw [← hT]
  split
  ·
   rfl
  ·
   rw [if_pos]
   unfold numBad
   rw [← hT]
   rcases h with h | h | h | h
   ·
    exact Or.inl h
   ·
    omega
   ·
    exact Or.inr (Or.inl h)
   ·
    exact Or.inr (Or.inr h)
 unfold numRV
 rw [stV_of_bad hb, hb]
 rfl
theorem numRV_good {s : ByteArray} {frm : Nat} {sg : Int} {d T : List UInt8} (hT : T = d.takeWhile isD) (h1 : T ≠ []) (h2 : ¬ 10 < T.length) (h3 : ¬ (1 < T.length ∧ d.head? = some 48)) (h4 : ¬ (sg < 0 ∧ valD T = 0)) :
 numRV s (numD frm sg d) = .tuple #[.agg #[.string s, .int .i64 ((s.size - (d.dropWhile isD).length : Nat) : Int), .bool false], .int .i64 (sg * valD T)] := by
 have hb : numD frm sg d = (sg * valD T, ⟨d.dropWhile isD, none⟩) := by
  unfold numD
  rw [← hT, if_neg h2, if_neg]
  unfold numBad
  rw [← hT]
  rintro (h | h | h)
  ·
   exact h1 h
  ·
   exact h3 h
  ·
   exact h4 h
 unfold numRV
 rw [hb, stV_good]
 rfl
theorem dig_end {s : ByteArray} {f : Nat} {T : List UInt8} (hT : T = (dropB s f).takeWhile isD) (h : 0 < T.length) : s.size - ((dropB s f).dropWhile isD).length = f + T.length := by
 obtain ⟨h2, _⟩ := tw_at hT 0 h
 have := while_len isD (dropB s f)
 rw [← hT, dropB_len] at this
 omega
set_option maxHeartbeats 4000000 in
set_option maxRecDepth 100000 in
theorem rnumber_calls (s : ByteArray) (st : St) (w : World) (hs : s.size ≤ 1000) (hok : st.ok (bytes s)) :
 Calls Tryz.prog 102 #[stV s st] w fun e w' => e = .returned (numRV s (numberS st)) ∧ Below w.heap.size w w' := by
 have hok1 := blanksS_ok hok
 have hbl := fun w => rblanks_calls s st w hs hok
 obtain ⟨l, bad⟩ := st
 cases bad with
 | some n =>
  rw [numberS_bad rfl]
  rw [blanksS_bad rfl] at hbl
  show Calls _ _ _ w fun e w' => e = .returned (.tuple #[stV s ⟨l, some n⟩, .int .i64 0]) ∧ _
  rw [stV_bad] at hbl ⊢
  generalize ((s.size - n : Nat) : Int) = i at hbl ⊢
  obtain ⟨hn1, hn2⟩ := spot_new w s ⟨#[]⟩ i 0 true false
  have KB1 := mk0 hn1
  have KB2 := mk0 hn2
  have HB := mk0 (below_alloc (below_alloc (Below.refl w.heap.size w) (.cells #[.string s, .int .i64 i, .bool true] 177)) (.cells #[.string ⟨#[]⟩, .int .i64 0, .bool false] 177))
  clear hn1 hn2
  go_enter Tryz.func102, Tryz.ntmps102
  go_wp2_with fail
  refine (hbl _).mono ?_
  rintro e w1 ⟨rfl, hb⟩
  have k1_ := mk0 ((hb.block _ (blk_lt KB1.out)).trans KB1.out)
  have k2_ := mk0 ((hb.block _ (blk_lt KB2.out)).trans KB2.out)
  have n_ := mk0 (below_then HB.out HB.out.size hb)
  clear KB1 KB2 HB hb
  have KB1 := k1_
  have KB2 := k2_
  have HB := n_
  clear k1_ k2_ n_
  obtain ⟨c0, c1, c2, f0, f1, f2⟩ := spot_cells KB1.out
  obtain ⟨d0, d1, d2, g0, g1, g2⟩ := spot_cells KB2.out
  go_upto_region 2 with (fail)
  clear c0 c1 c2 f0 f1 f2 d0 d1 d2 g0 g1 g2
  have k1_ := mk0 (spot_set KB1.out s i true)
  have k2_ := mk0 (spot_far KB2.out (show w.heap.size + 1 ≠ w.heap.size by omega) s i true)
  have n_ := mk0 (spot_below HB.out (Nat.le_refl w.heap.size) s i true)
  clear KB1 KB2 HB
  have KB1 := k1_
  have KB2 := k2_
  have HB := n_
  clear k1_ k2_ n_
  generalize (((w1.setCell ⟨w.heap.size, 0, none⟩ (.string s)).setCell ⟨w.heap.size, 1, none⟩ (.int .i64 i)).setCell ⟨w.heap.size, 2, none⟩ (.bool true)) = w2 at KB1 KB2 HB ⊢
  obtain ⟨c0, c1, c2, f0, f1, f2⟩ := spot_cells KB1.out
  obtain ⟨d0, d1, d2, g0, g1, g2⟩ := spot_cells KB2.out
  go_wp2
  refine bodyPost_ret (v := .tuple #[.agg #[.string s, .int .i64 i, .bool true], .int .i64 0]) (by simp [results, Tryz.results102, go_sem, d0, d1, d2]) rfl ⟨rfl, spot_below HB.out (Nat.le_succ w.heap.size) s i true⟩
 | none =>
  rw [stV_good] at hbl ⊢
  have e1 : blanksS ⟨l, none⟩ = ⟨skip l, none⟩ := rfl
  have e2 : numberS ⟨l, none⟩ = numL (skip l) := rfl
  rw [e1] at hbl hok1
  rw [stV_good] at hbl
  rw [e2]
  have hle := P_le hok1
  have hsuf : skip l <:+ bytes s := hok1.1
  have hd := suf_drop hsuf
  simp only at hle
  generalize skip l = L at hbl hle hd ⊢
  generalize ((s.size - l.length : Nat) : Int) = i0 at hbl ⊢
  obtain ⟨i, hi⟩ : ∃ i, s.size - L.length = i := ⟨_, rfl⟩
  rw [hi] at hbl hd
  have hiz : i ≤ s.size := by omega
  have hli : s.size - L.length = i := hi
  clear hok hok1 hsuf hi e1 e2
  obtain ⟨hn1, hn2⟩ := spot_new w s ⟨#[]⟩ i0 0 false false
  have KB1 := mk0 hn1
  have KB2 := mk0 hn2
  have HB := mk0 (below_alloc (below_alloc (Below.refl w.heap.size w) (.cells #[.string s, .int .i64 i0, .bool false] 177)) (.cells #[.string ⟨#[]⟩, .int .i64 0, .bool false] 177))
  clear hn1 hn2
  cases L with
  | nil =>
   have hn : numL [] = numD 0 1 [] := rfl
   rw [hn]
   have hii : i = s.size := by simp at hli; omega
   have q1 : decide ((i : Int) < (s.size : Int)) = false := decide_eq_false (by omega)
   have q0 : decide (i < s.size) = false := decide_eq_false (by omega)
   rw [numRV_bad (T := []) rfl (Or.inl rfl), show s.size - 0 = i by omega]
   clear hn hd hli hii
   go_enter Tryz.func102, Tryz.ntmps102
   go_wp2_with fail
   refine (hbl _).mono ?_
   rintro e w1 ⟨rfl, hb⟩
   have k1_ := mk0 ((hb.block _ (blk_lt KB1.out)).trans KB1.out)
   have k2_ := mk0 ((hb.block _ (blk_lt KB2.out)).trans KB2.out)
   have n_ := mk0 (below_then HB.out HB.out.size hb)
   clear KB1 KB2 HB hb
   have KB1 := k1_
   have KB2 := k2_
   have HB := n_
   clear k1_ k2_ n_
   obtain ⟨c0, c1, c2, f0, f1, f2⟩ := spot_cells KB1.out
   obtain ⟨d0, d1, d2, g0, g1, g2⟩ := spot_cells KB2.out
   go_upto_region 2 with (fail)
   clear c0 c1 c2 f0 f1 f2 d0 d1 d2 g0 g1 g2
   have k1_ := mk0 (spot_set KB1.out s (i : Int) false)
   have k2_ := mk0 (spot_far KB2.out (show w.heap.size + 1 ≠ w.heap.size by omega) s (i : Int) false)
   have n_ := mk0 (spot_below HB.out (Nat.le_refl w.heap.size) s (i : Int) false)
   clear KB1 KB2 HB
   have KB1 := k1_
   have KB2 := k2_
   have HB := n_
   clear k1_ k2_ n_
   generalize (((w1.setCell ⟨w.heap.size, 0, none⟩ (.string s)).setCell ⟨w.heap.size, 1, none⟩ (.int .i64 (i : Int))).setCell ⟨w.heap.size, 2, none⟩ (.bool false)) = w2 at KB1 KB2 HB ⊢
   obtain ⟨c0, c1, c2, f0, f1, f2⟩ := spot_cells KB1.out
   obtain ⟨d0, d1, d2, g0, g1, g2⟩ := spot_cells KB2.out
   go_wp2_with fail
   go_loopg [6, 7] 1 (fun k n t wr => n = .int .i64 0 ∧ t = .int .i64 (i : Int) ∧ wr = w2)
   case atStart => exact ⟨rfl, rfl, rfl⟩
   case round =>
    obtain ⟨rfl, rfl, rfl⟩ := hrel
    go_wp2_with fail
    refine (rbad_calls s (i : Int) (i : Int) false _).mono ?_
    rintro e w3 ⟨rfl, hb⟩
    clear c0 c1 c2 f0 f1 f2 d0 d1 d2 g0 g1 g2
    have k1_ := mk0 ((hb.block _ (blk_lt KB1.out)).trans KB1.out)
    have k2_ := mk0 ((hb.block _ (blk_lt KB2.out)).trans KB2.out)
    have n_ := mk0 (below_then HB.out HB.out.size hb)
    clear KB1 KB2 HB hb
    have KB1 := k1_
    have KB2 := k2_
    have HB := n_
    clear k1_ k2_ n_
    obtain ⟨c0, c1, c2, f0, f1, f2⟩ := spot_cells KB1.out
    obtain ⟨d0, d1, d2, g0, g1, g2⟩ := spot_cells KB2.out
    unfold spotV
    go_wp2
    refine bodyPost_ret (v := .tuple #[.agg #[.string s, .int .i64 (i : Int), .bool true], .int .i64 0]) (by simp [results, Tryz.results102, go_sem, d0, d1, d2]) rfl ⟨rfl, spot_below HB.out (Nat.le_succ w.heap.size) s (i : Int) true⟩
  | cons c r =>
   obtain ⟨hlt, _, h3⟩ := bt_cons hd.symm
   have hx : ∀ h : i < s.size, s[i]'h = c := fun h => by
    rw [dropB_cons h] at hd
    injection hd with hd1 _
    exact hd1.symm
   have p1 : (0 : Int) ≤ (i : Int) := by omega
   have p2 : (i : Int) < (s.size : Int) := by omega
   have hfr : s.size - (r.length + 1) = i := by simpa using hli
   by_cases h45 : c = 45
   ·
    subst h45
    have hn : numL (45 :: r) = numD (r.length + 1) (-1) r := by simp [numL]
    rw [hn]
    subst h3
    obtain ⟨f, hf⟩ : ∃ f, i + 1 = f := ⟨_, rfl⟩
    rw [hf] at hfr ⊢
    have hfz : f ≤ s.size := by omega
    obtain ⟨T, hT⟩ : ∃ T, T = (dropB s f).takeWhile isD := ⟨_, rfl⟩
    obtain ⟨J, hJ⟩ : ∃ J, J = min T.length 11 := ⟨_, rfl⟩
    have HTL := mk0 (show f + T.length ≤ s.size by have h := (List.takeWhile_prefix (l := dropB s f) isD).length_le; rw [← hT, dropB_len] at h; omega)
    have HBAD := mk0 (numRV_bad (s := s) (frm := (dropB s f).length + 1) (sg := -1) hT)
    have HGOOD := mk0 (numRV_good (s := s) (frm := (dropB s f).length + 1) (sg := -1) hT)
    rw [hfr] at HBAD
    have HT := mk0 hT
    have HJ := mk0 hJ
    have HF := mk0 hf
    clear hT hJ hn hd hli hfr hf
    generalize numRV s (numD ((dropB s f).length + 1) (-1) (dropB s f)) = RV at HBAD HGOOD ⊢
    go_enter Tryz.func102, Tryz.ntmps102
    go_wp2_with fail
    refine (hbl _).mono ?_
    rintro e w1 ⟨rfl, hb⟩
    have k1_ := mk0 ((hb.block _ (blk_lt KB1.out)).trans KB1.out)
    have k2_ := mk0 ((hb.block _ (blk_lt KB2.out)).trans KB2.out)
    have n_ := mk0 (below_then HB.out HB.out.size hb)
    clear KB1 KB2 HB hb
    have KB1 := k1_
    have KB2 := k2_
    have HB := n_
    clear k1_ k2_ n_
    obtain ⟨c0, c1, c2, f0, f1, f2⟩ := spot_cells KB1.out
    obtain ⟨d0, d1, d2, g0, g1, g2⟩ := spot_cells KB2.out
    go_upto_region 2 with (fail)
    clear c0 c1 c2 f0 f1 f2 d0 d1 d2 g0 g1 g2
    have k1_ := mk0 (spot_set KB1.out s (i : Int) false)
    have k2_ := mk0 (spot_far KB2.out (show w.heap.size + 1 ≠ w.heap.size by omega) s (i : Int) false)
    have n_ := mk0 (spot_below HB.out (Nat.le_refl w.heap.size) s (i : Int) false)
    clear KB1 KB2 HB
    have KB1 := k1_
    have KB2 := k2_
    have HB := n_
    clear k1_ k2_ n_
    generalize (((w1.setCell ⟨w.heap.size, 0, none⟩ (.string s)).setCell ⟨w.heap.size, 1, none⟩ (.int .i64 (i : Int))).setCell ⟨w.heap.size, 2, none⟩ (.bool false)) = w2 at KB1 KB2 HB ⊢
    obtain ⟨c0, c1, c2, f0, f1, f2⟩ := spot_cells KB1.out
    obtain ⟨d0, d1, d2, g0, g1, g2⟩ := spot_cells KB2.out
    go_wp2_with fail
    have ef : (i : Int) + 1 = (f : Int) := by have := HF.out; omega
    rw [ef]
    clear ef hx p1 p2 hlt
    go_wp2_with fail
    go_loopg [6, 7] (s.size + 2) (fun k n t wr => ∃ j : Nat, Aside0 (f ≤ j ∧ j ≤ f + J ∧ (J + f) - j < k) ∧ n = .int .i64 (valD (T.take (j - f))) ∧ t = .int .i64 (j : Int) ∧ wr = w2)
    case atStart => exact ⟨f, ⟨Nat.le_refl _, by omega, by have := HJ.out; have := HTL.out; omega⟩, by rw [Nat.sub_self]; rfl, rfl, rfl⟩
    case round =>
     obtain ⟨j, HM, rfl, rfl, rfl⟩ := hrel
     by_cases hj : j < f + J
     ·
      obtain ⟨hjs, cb, hc2, hdg, hsn⟩ := digit_more HT.out HJ.out HM.out.1 hj
      have hx2 : ∀ h : j < s.size, s[j]'h = cb := fun _ => hc2
      clear hc2
      have p3 : (0 : Int) ≤ (j : Int) := by omega
      have p4 : (j : Int) < (s.size : Int) := by omega
      have p5 : decide ((j : Int) - (f : Int) < 11) = true := decide_eq_true (by have := HJ.out; have := HM.out; omega)
      have p6 : (f : Int) ≤ (j : Int) := by have := HM.out; omega
      have p7 : (f : Int) ≤ 9223372036854775807 := by omega
      have hv := digit_val HT.out (j - f) (by have := HJ.out; have := HM.out; omega)
      have HS := mk0 hsn
      clear hsn
      generalize valD (T.take (j - f)) = v at hv HS ⊢
      obtain ⟨v0, v1⟩ := hv
      have u0 := cb.toNat_lt
      have u1 : (0 : Int) ≤ (cb.toNat : Int) := by omega
      have u2 : (cb.toNat : Int) < 256 := by omega
      go_wp2_with fail
      refine (rdigit_calls cb _).mono ?_
      rintro e w3 ⟨rfl, rfl⟩
      rw [hdg]
      go_wp2_with fail
      go_roundg (gk - 1)
      case measure => have := HM.out; omega
      case rel => exact ⟨j + 1, ⟨by have := HM.out; omega, by omega, by have := HM.out; omega⟩, by rw [HS.out]; congr 1; omega, rfl, rfl⟩
     ·
      have HJJ := mk0 (show j = f + J by have := HM.out; omega)
      have p6 : (f : Int) ≤ (j : Int) := by have := HM.out; omega
      have p10 : (j : Int) ≤ (s.size : Int) := by have := HJJ.out; have := HJ.out; have := HTL.out; omega
      clear hj
      by_cases hA : T = []
      ·
       have b1 : ((j : Int) == (f : Int)) = true := by simp; have := HJJ.out; have := HJ.out; rw [hA] at this; simp at this; omega
       have HRV := mk0 (HBAD.out (Or.inl hA))
       clear hA
       by_cases hjs : j < s.size
       ·
        obtain ⟨cb, hc2⟩ : ∃ c, s[j]'hjs = c := ⟨_, rfl⟩
        have hx2 : ∀ h : j < s.size, s[j]'h = cb := fun _ => hc2
        have p3 : (0 : Int) ≤ (j : Int) := by omega
        have p4 : (j : Int) < (s.size : Int) := by omega
        cases hdg : isD cb with
        | true =>
         have h11 : J = 11 := digit_stop HT.out HJ.out HJJ.out hjs (by rw [hc2]; exact hdg)
         clear hc2
         have q9 : decide ((j : Int) - (f : Int) < 11) = false := decide_eq_false (by have := HJJ.out; omega)
         clear h11
         go_wp2_with fail
         refine (rdigit_calls cb _).mono ?_
         rintro e w3 ⟨rfl, rfl⟩
         rw [hdg]
         go_wp2_with fail
         refine (rbad_calls s (i : Int) (i : Int) false _).mono ?_
         rintro e w3 ⟨rfl, hb⟩
         clear c0 c1 c2 f0 f1 f2 d0 d1 d2 g0 g1 g2
         have k1_ := mk0 ((hb.block _ (blk_lt KB1.out)).trans KB1.out)
         have k2_ := mk0 ((hb.block _ (blk_lt KB2.out)).trans KB2.out)
         have n_ := mk0 (below_then HB.out HB.out.size hb)
         clear KB1 KB2 HB hb
         have KB1 := k1_
         have KB2 := k2_
         have HB := n_
         clear k1_ k2_ n_
         obtain ⟨c0, c1, c2, f0, f1, f2⟩ := spot_cells KB1.out
         obtain ⟨d0, d1, d2, g0, g1, g2⟩ := spot_cells KB2.out
         unfold spotV
         go_wp2
         refine bodyPost_ret (v := .tuple #[.agg #[.string s, .int .i64 (i : Int), .bool true], .int .i64 0]) (by simp [results, Tryz.results102, go_sem, d0, d1, d2]) rfl ⟨congrArg Ending.returned HRV.out.symm, spot_below HB.out (Nat.le_succ w.heap.size) s (i : Int) true⟩
        | false =>
         clear hc2
         go_wp2_with fail
         refine (rdigit_calls cb _).mono ?_
         rintro e w3 ⟨rfl, rfl⟩
         rw [hdg]
         go_wp2_with fail
         refine (rbad_calls s (i : Int) (i : Int) false _).mono ?_
         rintro e w3 ⟨rfl, hb⟩
         clear c0 c1 c2 f0 f1 f2 d0 d1 d2 g0 g1 g2
         have k1_ := mk0 ((hb.block _ (blk_lt KB1.out)).trans KB1.out)
         have k2_ := mk0 ((hb.block _ (blk_lt KB2.out)).trans KB2.out)
         have n_ := mk0 (below_then HB.out HB.out.size hb)
         clear KB1 KB2 HB hb
         have KB1 := k1_
         have KB2 := k2_
         have HB := n_
         clear k1_ k2_ n_
         obtain ⟨c0, c1, c2, f0, f1, f2⟩ := spot_cells KB1.out
         obtain ⟨d0, d1, d2, g0, g1, g2⟩ := spot_cells KB2.out
         unfold spotV
         go_wp2
         refine bodyPost_ret (v := .tuple #[.agg #[.string s, .int .i64 (i : Int), .bool true], .int .i64 0]) (by simp [results, Tryz.results102, go_sem, d0, d1, d2]) rfl ⟨congrArg Ending.returned HRV.out.symm, spot_below HB.out (Nat.le_succ w.heap.size) s (i : Int) true⟩
       ·
        have p3 : decide ((j : Int) < (s.size : Int)) = false := decide_eq_false (by omega)
        have p3' : decide (j < s.size) = false := decide_eq_false (by omega)
        clear hjs
        go_wp2_with fail
        refine (rbad_calls s (i : Int) (i : Int) false _).mono ?_
        rintro e w3 ⟨rfl, hb⟩
        clear c0 c1 c2 f0 f1 f2 d0 d1 d2 g0 g1 g2
        have k1_ := mk0 ((hb.block _ (blk_lt KB1.out)).trans KB1.out)
        have k2_ := mk0 ((hb.block _ (blk_lt KB2.out)).trans KB2.out)
        have n_ := mk0 (below_then HB.out HB.out.size hb)
        clear KB1 KB2 HB hb
        have KB1 := k1_
        have KB2 := k2_
        have HB := n_
        clear k1_ k2_ n_
        obtain ⟨c0, c1, c2, f0, f1, f2⟩ := spot_cells KB1.out
        obtain ⟨d0, d1, d2, g0, g1, g2⟩ := spot_cells KB2.out
        unfold spotV
        go_wp2
        refine bodyPost_ret (v := .tuple #[.agg #[.string s, .int .i64 (i : Int), .bool true], .int .i64 0]) (by simp [results, Tryz.results102, go_sem, d0, d1, d2]) rfl ⟨congrArg Ending.returned HRV.out.symm, spot_below HB.out (Nat.le_succ w.heap.size) s (i : Int) true⟩
      have hT0 : 0 < T.length := List.length_pos_iff.mpr hA
      have b1 : ((j : Int) == (f : Int)) = false := by simp; have := HJJ.out; have := HJ.out; omega
      by_cases hB : 10 < T.length
      ·
       have HRV := mk0 (HBAD.out (Or.inr (Or.inl hB)))
       have b2 : decide (10 < (j : Int) - (f : Int)) = true := decide_eq_true (by have := HJJ.out; have := HJ.out; omega)
       clear hA hB hT0
       by_cases hjs : j < s.size
       ·
        obtain ⟨cb, hc2⟩ : ∃ c, s[j]'hjs = c := ⟨_, rfl⟩
        have hx2 : ∀ h : j < s.size, s[j]'h = cb := fun _ => hc2
        have p3 : (0 : Int) ≤ (j : Int) := by omega
        have p4 : (j : Int) < (s.size : Int) := by omega
        cases hdg : isD cb with
        | true =>
         have h11 : J = 11 := digit_stop HT.out HJ.out HJJ.out hjs (by rw [hc2]; exact hdg)
         clear hc2
         have q9 : decide ((j : Int) - (f : Int) < 11) = false := decide_eq_false (by have := HJJ.out; omega)
         clear h11
         go_wp2_with fail
         refine (rdigit_calls cb _).mono ?_
         rintro e w3 ⟨rfl, rfl⟩
         rw [hdg]
         go_wp2_with fail
         refine (rbad_calls s (i : Int) (i : Int) false _).mono ?_
         rintro e w3 ⟨rfl, hb⟩
         clear c0 c1 c2 f0 f1 f2 d0 d1 d2 g0 g1 g2
         have k1_ := mk0 ((hb.block _ (blk_lt KB1.out)).trans KB1.out)
         have k2_ := mk0 ((hb.block _ (blk_lt KB2.out)).trans KB2.out)
         have n_ := mk0 (below_then HB.out HB.out.size hb)
         clear KB1 KB2 HB hb
         have KB1 := k1_
         have KB2 := k2_
         have HB := n_
         clear k1_ k2_ n_
         obtain ⟨c0, c1, c2, f0, f1, f2⟩ := spot_cells KB1.out
         obtain ⟨d0, d1, d2, g0, g1, g2⟩ := spot_cells KB2.out
         unfold spotV
         go_wp2
         refine bodyPost_ret (v := .tuple #[.agg #[.string s, .int .i64 (i : Int), .bool true], .int .i64 0]) (by simp [results, Tryz.results102, go_sem, d0, d1, d2]) rfl ⟨congrArg Ending.returned HRV.out.symm, spot_below HB.out (Nat.le_succ w.heap.size) s (i : Int) true⟩
        | false =>
         clear hc2
         go_wp2_with fail
         refine (rdigit_calls cb _).mono ?_
         rintro e w3 ⟨rfl, rfl⟩
         rw [hdg]
         go_wp2_with fail
         refine (rbad_calls s (i : Int) (i : Int) false _).mono ?_
         rintro e w3 ⟨rfl, hb⟩
         clear c0 c1 c2 f0 f1 f2 d0 d1 d2 g0 g1 g2
         have k1_ := mk0 ((hb.block _ (blk_lt KB1.out)).trans KB1.out)
         have k2_ := mk0 ((hb.block _ (blk_lt KB2.out)).trans KB2.out)
         have n_ := mk0 (below_then HB.out HB.out.size hb)
         clear KB1 KB2 HB hb
         have KB1 := k1_
         have KB2 := k2_
         have HB := n_
         clear k1_ k2_ n_
         obtain ⟨c0, c1, c2, f0, f1, f2⟩ := spot_cells KB1.out
         obtain ⟨d0, d1, d2, g0, g1, g2⟩ := spot_cells KB2.out
         unfold spotV
         go_wp2
         refine bodyPost_ret (v := .tuple #[.agg #[.string s, .int .i64 (i : Int), .bool true], .int .i64 0]) (by simp [results, Tryz.results102, go_sem, d0, d1, d2]) rfl ⟨congrArg Ending.returned HRV.out.symm, spot_below HB.out (Nat.le_succ w.heap.size) s (i : Int) true⟩
       ·
        have p3 : decide ((j : Int) < (s.size : Int)) = false := decide_eq_false (by omega)
        have p3' : decide (j < s.size) = false := decide_eq_false (by omega)
        clear hjs
        go_wp2_with fail
        refine (rbad_calls s (i : Int) (i : Int) false _).mono ?_
        rintro e w3 ⟨rfl, hb⟩
        clear c0 c1 c2 f0 f1 f2 d0 d1 d2 g0 g1 g2
        have k1_ := mk0 ((hb.block _ (blk_lt KB1.out)).trans KB1.out)
        have k2_ := mk0 ((hb.block _ (blk_lt KB2.out)).trans KB2.out)
        have n_ := mk0 (below_then HB.out HB.out.size hb)
        clear KB1 KB2 HB hb
        have KB1 := k1_
        have KB2 := k2_
        have HB := n_
        clear k1_ k2_ n_
        obtain ⟨c0, c1, c2, f0, f1, f2⟩ := spot_cells KB1.out
        obtain ⟨d0, d1, d2, g0, g1, g2⟩ := spot_cells KB2.out
        unfold spotV
        go_wp2
        refine bodyPost_ret (v := .tuple #[.agg #[.string s, .int .i64 (i : Int), .bool true], .int .i64 0]) (by simp [results, Tryz.results102, go_sem, d0, d1, d2]) rfl ⟨congrArg Ending.returned HRV.out.symm, spot_below HB.out (Nat.le_succ w.heap.size) s (i : Int) true⟩
      have b2 : decide (10 < (j : Int) - (f : Int)) = false := decide_eq_false (by have := HJJ.out; have := HJ.out; omega)
      have hJT : J = T.length := by have := HJ.out; omega
      have hjf : j - f = T.length := by have := HJJ.out; omega
      rw [hjf, List.take_length]
      obtain ⟨hfs, hf0⟩ := digit_first HT.out hT0
      have g1 : (f : Int) < (s.size : Int) := by omega
      have g2 : (0 : Int) ≤ (f : Int) := by omega
      have HJ2 := mk0 hJT
      have hx3 : ∀ h : f < s.size, ∃ c, s[f]'h = c ∧ (dropB s f).head? = some c := fun h => ⟨_, rfl, hf0⟩
      obtain ⟨c3, hc3, hh3⟩ := hx3 hfs
      have hx4 : ∀ h : f < s.size, s[f]'h = c3 := fun _ => hc3
      have e3 : ((c3.toNat : Int) == (48 : Int)) = decide (c3 = 48) := c_eq (n := 48) (by decide)
      clear hc3 hf0 hx3
      by_cases hC : 1 < T.length ∧ c3 = 48
      ·
       have HRV := mk0 (HBAD.out (Or.inr (Or.inr (Or.inl ⟨hC.1, by rw [hh3, hC.2]⟩))))
       have b3 : decide (1 < (j : Int) - (f : Int)) = true := decide_eq_true (by have := HJJ.out; have := HJ.out; have := HJ2.out; omega)
       rw [decide_eq_true hC.2] at e3
       clear hA hB hT0 hJT hjf hC hh3
       by_cases hjs : j < s.size
       ·
        obtain ⟨cb, hc2⟩ : ∃ c, s[j]'hjs = c := ⟨_, rfl⟩
        have hx2 : ∀ h : j < s.size, s[j]'h = cb := fun _ => hc2
        have p3 : (0 : Int) ≤ (j : Int) := by omega
        have p4 : (j : Int) < (s.size : Int) := by omega
        cases hdg : isD cb with
        | true =>
         have h11 : J = 11 := digit_stop HT.out HJ.out HJJ.out hjs (by rw [hc2]; exact hdg)
         clear hc2
         have q9 : decide ((j : Int) - (f : Int) < 11) = false := decide_eq_false (by have := HJJ.out; omega)
         clear h11
         go_wp2_with fail
         refine (rdigit_calls cb _).mono ?_
         rintro e w3 ⟨rfl, rfl⟩
         rw [hdg]
         go_wp2_with fail
         refine (rbad_calls s (i : Int) (i : Int) false _).mono ?_
         rintro e w3 ⟨rfl, hb⟩
         clear c0 c1 c2 f0 f1 f2 d0 d1 d2 g0 g1 g2
         have k1_ := mk0 ((hb.block _ (blk_lt KB1.out)).trans KB1.out)
         have k2_ := mk0 ((hb.block _ (blk_lt KB2.out)).trans KB2.out)
         have n_ := mk0 (below_then HB.out HB.out.size hb)
         clear KB1 KB2 HB hb
         have KB1 := k1_
         have KB2 := k2_
         have HB := n_
         clear k1_ k2_ n_
         obtain ⟨c0, c1, c2, f0, f1, f2⟩ := spot_cells KB1.out
         obtain ⟨d0, d1, d2, g0, g1, g2⟩ := spot_cells KB2.out
         unfold spotV
         go_wp2
         refine bodyPost_ret (v := .tuple #[.agg #[.string s, .int .i64 (i : Int), .bool true], .int .i64 0]) (by simp [results, Tryz.results102, go_sem, d0, d1, d2]) rfl ⟨congrArg Ending.returned HRV.out.symm, spot_below HB.out (Nat.le_succ w.heap.size) s (i : Int) true⟩
        | false =>
         clear hc2
         go_wp2_with fail
         refine (rdigit_calls cb _).mono ?_
         rintro e w3 ⟨rfl, rfl⟩
         rw [hdg]
         go_wp2_with fail
         refine (rbad_calls s (i : Int) (i : Int) false _).mono ?_
         rintro e w3 ⟨rfl, hb⟩
         clear c0 c1 c2 f0 f1 f2 d0 d1 d2 g0 g1 g2
         have k1_ := mk0 ((hb.block _ (blk_lt KB1.out)).trans KB1.out)
         have k2_ := mk0 ((hb.block _ (blk_lt KB2.out)).trans KB2.out)
         have n_ := mk0 (below_then HB.out HB.out.size hb)
         clear KB1 KB2 HB hb
         have KB1 := k1_
         have KB2 := k2_
         have HB := n_
         clear k1_ k2_ n_
         obtain ⟨c0, c1, c2, f0, f1, f2⟩ := spot_cells KB1.out
         obtain ⟨d0, d1, d2, g0, g1, g2⟩ := spot_cells KB2.out
         unfold spotV
         go_wp2
         refine bodyPost_ret (v := .tuple #[.agg #[.string s, .int .i64 (i : Int), .bool true], .int .i64 0]) (by simp [results, Tryz.results102, go_sem, d0, d1, d2]) rfl ⟨congrArg Ending.returned HRV.out.symm, spot_below HB.out (Nat.le_succ w.heap.size) s (i : Int) true⟩
       ·
        have p3 : decide ((j : Int) < (s.size : Int)) = false := decide_eq_false (by omega)
        have p3' : decide (j < s.size) = false := decide_eq_false (by omega)
        clear hjs
        go_wp2_with fail
        refine (rbad_calls s (i : Int) (i : Int) false _).mono ?_
        rintro e w3 ⟨rfl, hb⟩
        clear c0 c1 c2 f0 f1 f2 d0 d1 d2 g0 g1 g2
        have k1_ := mk0 ((hb.block _ (blk_lt KB1.out)).trans KB1.out)
        have k2_ := mk0 ((hb.block _ (blk_lt KB2.out)).trans KB2.out)
        have n_ := mk0 (below_then HB.out HB.out.size hb)
        clear KB1 KB2 HB hb
        have KB1 := k1_
        have KB2 := k2_
        have HB := n_
        clear k1_ k2_ n_
        obtain ⟨c0, c1, c2, f0, f1, f2⟩ := spot_cells KB1.out
        obtain ⟨d0, d1, d2, g0, g1, g2⟩ := spot_cells KB2.out
        unfold spotV
        go_wp2
        refine bodyPost_ret (v := .tuple #[.agg #[.string s, .int .i64 (i : Int), .bool true], .int .i64 0]) (by simp [results, Tryz.results102, go_sem, d0, d1, d2]) rfl ⟨congrArg Ending.returned HRV.out.symm, spot_below HB.out (Nat.le_succ w.heap.size) s (i : Int) true⟩
      have hz : f + T.length = j := by have := HJJ.out; omega
      by_cases hv0 : valD T = 0
      ·
       have HRV := mk0 (HBAD.out (Or.inr (Or.inr (Or.inr ⟨by decide, hv0⟩))))
       have b5 : (valD T == 0) = true := by simpa using hv0
       clear hv0
       generalize valD T = vT at b5 ⊢
       by_cases h1 : 1 < T.length
       ·
        have b3 : decide (1 < (j : Int) - (f : Int)) = true := decide_eq_true (by have := HJJ.out; have := HJ.out; have := HJ2.out; omega)
        rw [decide_eq_false (fun h => hC ⟨h1, h⟩)] at e3
        clear hA hB hT0 hJT hjf hC hh3 hz h1
        by_cases hjs : j < s.size
        ·
         obtain ⟨cb, hc2⟩ : ∃ c, s[j]'hjs = c := ⟨_, rfl⟩
         have hx2 : ∀ h : j < s.size, s[j]'h = cb := fun _ => hc2
         have p3 : (0 : Int) ≤ (j : Int) := by omega
         have p4 : (j : Int) < (s.size : Int) := by omega
         cases hdg : isD cb with
         | true =>
          have h11 : J = 11 := digit_stop HT.out HJ.out HJJ.out hjs (by rw [hc2]; exact hdg)
          clear hc2
          have q9 : decide ((j : Int) - (f : Int) < 11) = false := decide_eq_false (by have := HJJ.out; omega)
          clear h11
          go_wp2_with fail
          refine (rdigit_calls cb _).mono ?_
          rintro e w3 ⟨rfl, rfl⟩
          rw [hdg]
          go_wp2_with fail
          refine (rbad_calls s (i : Int) (i : Int) false _).mono ?_
          rintro e w3 ⟨rfl, hb⟩
          clear c0 c1 c2 f0 f1 f2 d0 d1 d2 g0 g1 g2
          have k1_ := mk0 ((hb.block _ (blk_lt KB1.out)).trans KB1.out)
          have k2_ := mk0 ((hb.block _ (blk_lt KB2.out)).trans KB2.out)
          have n_ := mk0 (below_then HB.out HB.out.size hb)
          clear KB1 KB2 HB hb
          have KB1 := k1_
          have KB2 := k2_
          have HB := n_
          clear k1_ k2_ n_
          obtain ⟨c0, c1, c2, f0, f1, f2⟩ := spot_cells KB1.out
          obtain ⟨d0, d1, d2, g0, g1, g2⟩ := spot_cells KB2.out
          unfold spotV
          go_wp2
          refine bodyPost_ret (v := .tuple #[.agg #[.string s, .int .i64 (i : Int), .bool true], .int .i64 0]) (by simp [results, Tryz.results102, go_sem, d0, d1, d2]) rfl ⟨congrArg Ending.returned HRV.out.symm, spot_below HB.out (Nat.le_succ w.heap.size) s (i : Int) true⟩
         | false =>
          clear hc2
          go_wp2_with fail
          refine (rdigit_calls cb _).mono ?_
          rintro e w3 ⟨rfl, rfl⟩
          rw [hdg]
          go_wp2_with fail
          refine (rbad_calls s (i : Int) (i : Int) false _).mono ?_
          rintro e w3 ⟨rfl, hb⟩
          clear c0 c1 c2 f0 f1 f2 d0 d1 d2 g0 g1 g2
          have k1_ := mk0 ((hb.block _ (blk_lt KB1.out)).trans KB1.out)
          have k2_ := mk0 ((hb.block _ (blk_lt KB2.out)).trans KB2.out)
          have n_ := mk0 (below_then HB.out HB.out.size hb)
          clear KB1 KB2 HB hb
          have KB1 := k1_
          have KB2 := k2_
          have HB := n_
          clear k1_ k2_ n_
          obtain ⟨c0, c1, c2, f0, f1, f2⟩ := spot_cells KB1.out
          obtain ⟨d0, d1, d2, g0, g1, g2⟩ := spot_cells KB2.out
          unfold spotV
          go_wp2
          refine bodyPost_ret (v := .tuple #[.agg #[.string s, .int .i64 (i : Int), .bool true], .int .i64 0]) (by simp [results, Tryz.results102, go_sem, d0, d1, d2]) rfl ⟨congrArg Ending.returned HRV.out.symm, spot_below HB.out (Nat.le_succ w.heap.size) s (i : Int) true⟩
        ·
         have p3 : decide ((j : Int) < (s.size : Int)) = false := decide_eq_false (by omega)
         have p3' : decide (j < s.size) = false := decide_eq_false (by omega)
         clear hjs
         go_wp2_with fail
         refine (rbad_calls s (i : Int) (i : Int) false _).mono ?_
         rintro e w3 ⟨rfl, hb⟩
         clear c0 c1 c2 f0 f1 f2 d0 d1 d2 g0 g1 g2
         have k1_ := mk0 ((hb.block _ (blk_lt KB1.out)).trans KB1.out)
         have k2_ := mk0 ((hb.block _ (blk_lt KB2.out)).trans KB2.out)
         have n_ := mk0 (below_then HB.out HB.out.size hb)
         clear KB1 KB2 HB hb
         have KB1 := k1_
         have KB2 := k2_
         have HB := n_
         clear k1_ k2_ n_
         obtain ⟨c0, c1, c2, f0, f1, f2⟩ := spot_cells KB1.out
         obtain ⟨d0, d1, d2, g0, g1, g2⟩ := spot_cells KB2.out
         unfold spotV
         go_wp2
         refine bodyPost_ret (v := .tuple #[.agg #[.string s, .int .i64 (i : Int), .bool true], .int .i64 0]) (by simp [results, Tryz.results102, go_sem, d0, d1, d2]) rfl ⟨congrArg Ending.returned HRV.out.symm, spot_below HB.out (Nat.le_succ w.heap.size) s (i : Int) true⟩
       ·
        have b3 : decide (1 < (j : Int) - (f : Int)) = false := decide_eq_false (by have := HJJ.out; have := HJ.out; have := HJ2.out; omega)
        clear hA hB hT0 hJT hjf hC hh3 hz h1 e3
        by_cases hjs : j < s.size
        ·
         obtain ⟨cb, hc2⟩ : ∃ c, s[j]'hjs = c := ⟨_, rfl⟩
         have hx2 : ∀ h : j < s.size, s[j]'h = cb := fun _ => hc2
         have p3 : (0 : Int) ≤ (j : Int) := by omega
         have p4 : (j : Int) < (s.size : Int) := by omega
         cases hdg : isD cb with
         | true =>
          have h11 : J = 11 := digit_stop HT.out HJ.out HJJ.out hjs (by rw [hc2]; exact hdg)
          clear hc2
          have q9 : decide ((j : Int) - (f : Int) < 11) = false := decide_eq_false (by have := HJJ.out; omega)
          clear h11
          go_wp2_with fail
          refine (rdigit_calls cb _).mono ?_
          rintro e w3 ⟨rfl, rfl⟩
          rw [hdg]
          go_wp2_with fail
          refine (rbad_calls s (i : Int) (i : Int) false _).mono ?_
          rintro e w3 ⟨rfl, hb⟩
          clear c0 c1 c2 f0 f1 f2 d0 d1 d2 g0 g1 g2
          have k1_ := mk0 ((hb.block _ (blk_lt KB1.out)).trans KB1.out)
          have k2_ := mk0 ((hb.block _ (blk_lt KB2.out)).trans KB2.out)
          have n_ := mk0 (below_then HB.out HB.out.size hb)
          clear KB1 KB2 HB hb
          have KB1 := k1_
          have KB2 := k2_
          have HB := n_
          clear k1_ k2_ n_
          obtain ⟨c0, c1, c2, f0, f1, f2⟩ := spot_cells KB1.out
          obtain ⟨d0, d1, d2, g0, g1, g2⟩ := spot_cells KB2.out
          unfold spotV
          go_wp2
          refine bodyPost_ret (v := .tuple #[.agg #[.string s, .int .i64 (i : Int), .bool true], .int .i64 0]) (by simp [results, Tryz.results102, go_sem, d0, d1, d2]) rfl ⟨congrArg Ending.returned HRV.out.symm, spot_below HB.out (Nat.le_succ w.heap.size) s (i : Int) true⟩
         | false =>
          clear hc2
          go_wp2_with fail
          refine (rdigit_calls cb _).mono ?_
          rintro e w3 ⟨rfl, rfl⟩
          rw [hdg]
          go_wp2_with fail
          refine (rbad_calls s (i : Int) (i : Int) false _).mono ?_
          rintro e w3 ⟨rfl, hb⟩
          clear c0 c1 c2 f0 f1 f2 d0 d1 d2 g0 g1 g2
          have k1_ := mk0 ((hb.block _ (blk_lt KB1.out)).trans KB1.out)
          have k2_ := mk0 ((hb.block _ (blk_lt KB2.out)).trans KB2.out)
          have n_ := mk0 (below_then HB.out HB.out.size hb)
          clear KB1 KB2 HB hb
          have KB1 := k1_
          have KB2 := k2_
          have HB := n_
          clear k1_ k2_ n_
          obtain ⟨c0, c1, c2, f0, f1, f2⟩ := spot_cells KB1.out
          obtain ⟨d0, d1, d2, g0, g1, g2⟩ := spot_cells KB2.out
          unfold spotV
          go_wp2
          refine bodyPost_ret (v := .tuple #[.agg #[.string s, .int .i64 (i : Int), .bool true], .int .i64 0]) (by simp [results, Tryz.results102, go_sem, d0, d1, d2]) rfl ⟨congrArg Ending.returned HRV.out.symm, spot_below HB.out (Nat.le_succ w.heap.size) s (i : Int) true⟩
        ·
         have p3 : decide ((j : Int) < (s.size : Int)) = false := decide_eq_false (by omega)
         have p3' : decide (j < s.size) = false := decide_eq_false (by omega)
         clear hjs
         go_wp2_with fail
         refine (rbad_calls s (i : Int) (i : Int) false _).mono ?_
         rintro e w3 ⟨rfl, hb⟩
         clear c0 c1 c2 f0 f1 f2 d0 d1 d2 g0 g1 g2
         have k1_ := mk0 ((hb.block _ (blk_lt KB1.out)).trans KB1.out)
         have k2_ := mk0 ((hb.block _ (blk_lt KB2.out)).trans KB2.out)
         have n_ := mk0 (below_then HB.out HB.out.size hb)
         clear KB1 KB2 HB hb
         have KB1 := k1_
         have KB2 := k2_
         have HB := n_
         clear k1_ k2_ n_
         obtain ⟨c0, c1, c2, f0, f1, f2⟩ := spot_cells KB1.out
         obtain ⟨d0, d1, d2, g0, g1, g2⟩ := spot_cells KB2.out
         unfold spotV
         go_wp2
         refine bodyPost_ret (v := .tuple #[.agg #[.string s, .int .i64 (i : Int), .bool true], .int .i64 0]) (by simp [results, Tryz.results102, go_sem, d0, d1, d2]) rfl ⟨congrArg Ending.returned HRV.out.symm, spot_below HB.out (Nat.le_succ w.heap.size) s (i : Int) true⟩
      ·
       have HRV := mk0 (HGOOD.out hA hB (fun h => hC ⟨h.1, by have := h.2; rw [hh3] at this; injection this⟩) (fun h => hv0 h.2))
       rw [dig_end HT.out hT0, hz, show (-1 : Int) * valD T = -(valD T) by omega] at HRV
       have b5 : (valD T == 0) = false := by simpa using hv0
       have hvb := digit_val HT.out T.length (by omega)
       rw [List.take_length] at hvb
       obtain ⟨v0, v1⟩ := hvb
       clear hv0
       generalize valD T = vT at HRV b5 v0 v1 ⊢
       by_cases h1 : 1 < T.length
       ·
        have b3 : decide (1 < (j : Int) - (f : Int)) = true := decide_eq_true (by have := HJJ.out; have := HJ.out; have := HJ2.out; omega)
        rw [decide_eq_false (fun h => hC ⟨h1, h⟩)] at e3
        clear hA hB hT0 hJT hjf hC hh3 hz h1
        by_cases hjs : j < s.size
        ·
         obtain ⟨cb, hc2⟩ : ∃ c, s[j]'hjs = c := ⟨_, rfl⟩
         have hx2 : ∀ h : j < s.size, s[j]'h = cb := fun _ => hc2
         have p3 : (0 : Int) ≤ (j : Int) := by omega
         have p4 : (j : Int) < (s.size : Int) := by omega
         cases hdg : isD cb with
         | true =>
          have h11 : J = 11 := digit_stop HT.out HJ.out HJJ.out hjs (by rw [hc2]; exact hdg)
          clear hc2
          have q9 : decide ((j : Int) - (f : Int) < 11) = false := decide_eq_false (by have := HJJ.out; omega)
          clear h11
          go_wp2_with fail
          refine (rdigit_calls cb _).mono ?_
          rintro e w3 ⟨rfl, rfl⟩
          rw [hdg]
          have p8 : (0 : Int) ≤ (j : Int) := by omega
          go_wp2
          refine bodyPost_ret (v := .tuple #[.agg #[.string s, .int .i64 ((j : Nat) : Int), .bool false], .int .i64 (-vT)]) (by simp [results, Tryz.results102, go_sem, d0, d1, d2]) rfl ⟨congrArg Ending.returned HRV.out.symm, spot_below (HB.out.setCell (p := ⟨w.heap.size, 1, none⟩) (Nat.le_refl w.heap.size) _) (Nat.le_succ w.heap.size) s ((j : Nat) : Int) false⟩
         | false =>
          clear hc2
          go_wp2_with fail
          refine (rdigit_calls cb _).mono ?_
          rintro e w3 ⟨rfl, rfl⟩
          rw [hdg]
          have p8 : (0 : Int) ≤ (j : Int) := by omega
          go_wp2
          refine bodyPost_ret (v := .tuple #[.agg #[.string s, .int .i64 ((j : Nat) : Int), .bool false], .int .i64 (-vT)]) (by simp [results, Tryz.results102, go_sem, d0, d1, d2]) rfl ⟨congrArg Ending.returned HRV.out.symm, spot_below (HB.out.setCell (p := ⟨w.heap.size, 1, none⟩) (Nat.le_refl w.heap.size) _) (Nat.le_succ w.heap.size) s ((j : Nat) : Int) false⟩
        ·
         have p3 : decide ((j : Int) < (s.size : Int)) = false := decide_eq_false (by omega)
         have p3' : decide (j < s.size) = false := decide_eq_false (by omega)
         clear hjs
         have p8 : (0 : Int) ≤ (j : Int) := by omega
         go_wp2
         refine bodyPost_ret (v := .tuple #[.agg #[.string s, .int .i64 ((j : Nat) : Int), .bool false], .int .i64 (-vT)]) (by simp [results, Tryz.results102, go_sem, d0, d1, d2]) rfl ⟨congrArg Ending.returned HRV.out.symm, spot_below (HB.out.setCell (p := ⟨w.heap.size, 1, none⟩) (Nat.le_refl w.heap.size) _) (Nat.le_succ w.heap.size) s ((j : Nat) : Int) false⟩
       ·
        have b3 : decide (1 < (j : Int) - (f : Int)) = false := decide_eq_false (by have := HJJ.out; have := HJ.out; have := HJ2.out; omega)
        clear hA hB hT0 hJT hjf hC hh3 hz h1 e3
        by_cases hjs : j < s.size
        ·
         obtain ⟨cb, hc2⟩ : ∃ c, s[j]'hjs = c := ⟨_, rfl⟩
         have hx2 : ∀ h : j < s.size, s[j]'h = cb := fun _ => hc2
         have p3 : (0 : Int) ≤ (j : Int) := by omega
         have p4 : (j : Int) < (s.size : Int) := by omega
         cases hdg : isD cb with
         | true =>
          have h11 : J = 11 := digit_stop HT.out HJ.out HJJ.out hjs (by rw [hc2]; exact hdg)
          clear hc2
          have q9 : decide ((j : Int) - (f : Int) < 11) = false := decide_eq_false (by have := HJJ.out; omega)
          clear h11
          go_wp2_with fail
          refine (rdigit_calls cb _).mono ?_
          rintro e w3 ⟨rfl, rfl⟩
          rw [hdg]
          have p8 : (0 : Int) ≤ (j : Int) := by omega
          go_wp2
          refine bodyPost_ret (v := .tuple #[.agg #[.string s, .int .i64 ((j : Nat) : Int), .bool false], .int .i64 (-vT)]) (by simp [results, Tryz.results102, go_sem, d0, d1, d2]) rfl ⟨congrArg Ending.returned HRV.out.symm, spot_below (HB.out.setCell (p := ⟨w.heap.size, 1, none⟩) (Nat.le_refl w.heap.size) _) (Nat.le_succ w.heap.size) s ((j : Nat) : Int) false⟩
         | false =>
          clear hc2
          go_wp2_with fail
          refine (rdigit_calls cb _).mono ?_
          rintro e w3 ⟨rfl, rfl⟩
          rw [hdg]
          have p8 : (0 : Int) ≤ (j : Int) := by omega
          go_wp2
          refine bodyPost_ret (v := .tuple #[.agg #[.string s, .int .i64 ((j : Nat) : Int), .bool false], .int .i64 (-vT)]) (by simp [results, Tryz.results102, go_sem, d0, d1, d2]) rfl ⟨congrArg Ending.returned HRV.out.symm, spot_below (HB.out.setCell (p := ⟨w.heap.size, 1, none⟩) (Nat.le_refl w.heap.size) _) (Nat.le_succ w.heap.size) s ((j : Nat) : Int) false⟩
        ·
         have p3 : decide ((j : Int) < (s.size : Int)) = false := decide_eq_false (by omega)
         have p3' : decide (j < s.size) = false := decide_eq_false (by omega)
         clear hjs
         have p8 : (0 : Int) ≤ (j : Int) := by omega
         go_wp2
         refine bodyPost_ret (v := .tuple #[.agg #[.string s, .int .i64 ((j : Nat) : Int), .bool false], .int .i64 (-vT)]) (by simp [results, Tryz.results102, go_sem, d0, d1, d2]) rfl ⟨congrArg Ending.returned HRV.out.symm, spot_below (HB.out.setCell (p := ⟨w.heap.size, 1, none⟩) (Nat.le_refl w.heap.size) _) (Nat.le_succ w.heap.size) s ((j : Nat) : Int) false⟩
   ·
    have hn : numL (c :: r) = numD (r.length + 1) 1 (c :: r) := by simp [numL, h45]
    rw [hn, hd]
    have e45 : ((c.toNat : Int) == (45 : Int)) = false := by have := c_eq (c := c) (n := 45) (by decide); rw [decide_eq_false (show ¬ c = UInt8.ofNat 45 from h45)] at this; exact this
    have hfz : i ≤ s.size := by omega
    obtain ⟨T, hT⟩ : ∃ T, T = (dropB s i).takeWhile isD := ⟨_, rfl⟩
    obtain ⟨J, hJ⟩ : ∃ J, J = min T.length 11 := ⟨_, rfl⟩
    have HTL := mk0 (show i + T.length ≤ s.size by have h := (List.takeWhile_prefix (l := dropB s i) isD).length_le; rw [← hT, dropB_len] at h; omega)
    have HBAD := mk0 (numRV_bad (s := s) (frm := r.length + 1) (sg := 1) hT)
    have HGOOD := mk0 (numRV_good (s := s) (frm := r.length + 1) (sg := 1) hT)
    rw [hfr] at HBAD
    have HT := mk0 hT
    have HJ := mk0 hJ
    clear hT hJ hn hd hli h3 hfr h45
    generalize numRV s (numD (r.length + 1) 1 (dropB s i)) = RV at HBAD HGOOD ⊢
    go_enter Tryz.func102, Tryz.ntmps102
    go_wp2_with fail
    refine (hbl _).mono ?_
    rintro e w1 ⟨rfl, hb⟩
    have k1_ := mk0 ((hb.block _ (blk_lt KB1.out)).trans KB1.out)
    have k2_ := mk0 ((hb.block _ (blk_lt KB2.out)).trans KB2.out)
    have n_ := mk0 (below_then HB.out HB.out.size hb)
    clear KB1 KB2 HB hb
    have KB1 := k1_
    have KB2 := k2_
    have HB := n_
    clear k1_ k2_ n_
    obtain ⟨c0, c1, c2, f0, f1, f2⟩ := spot_cells KB1.out
    obtain ⟨d0, d1, d2, g0, g1, g2⟩ := spot_cells KB2.out
    go_upto_region 2 with (fail)
    clear c0 c1 c2 f0 f1 f2 d0 d1 d2 g0 g1 g2
    have k1_ := mk0 (spot_set KB1.out s (i : Int) false)
    have k2_ := mk0 (spot_far KB2.out (show w.heap.size + 1 ≠ w.heap.size by omega) s (i : Int) false)
    have n_ := mk0 (spot_below HB.out (Nat.le_refl w.heap.size) s (i : Int) false)
    clear KB1 KB2 HB
    have KB1 := k1_
    have KB2 := k2_
    have HB := n_
    clear k1_ k2_ n_
    generalize (((w1.setCell ⟨w.heap.size, 0, none⟩ (.string s)).setCell ⟨w.heap.size, 1, none⟩ (.int .i64 (i : Int))).setCell ⟨w.heap.size, 2, none⟩ (.bool false)) = w2 at KB1 KB2 HB ⊢
    obtain ⟨c0, c1, c2, f0, f1, f2⟩ := spot_cells KB1.out
    obtain ⟨d0, d1, d2, g0, g1, g2⟩ := spot_cells KB2.out
    go_wp2_with fail
    clear hx p1 p2 hlt e45
    obtain ⟨f, rfl⟩ : ∃ f, f = i := ⟨i, rfl⟩
    go_wp2_with fail
    go_loopg [6, 7] (s.size + 2) (fun k n t wr => ∃ j : Nat, Aside0 (f ≤ j ∧ j ≤ f + J ∧ (J + f) - j < k) ∧ n = .int .i64 (valD (T.take (j - f))) ∧ t = .int .i64 (j : Int) ∧ wr = w2)
    case atStart => exact ⟨f, ⟨Nat.le_refl _, by omega, by have := HJ.out; have := HTL.out; omega⟩, by rw [Nat.sub_self]; rfl, rfl, rfl⟩
    case round =>
     obtain ⟨j, HM, rfl, rfl, rfl⟩ := hrel
     by_cases hj : j < f + J
     ·
      obtain ⟨hjs, cb, hc2, hdg, hsn⟩ := digit_more HT.out HJ.out HM.out.1 hj
      have hx2 : ∀ h : j < s.size, s[j]'h = cb := fun _ => hc2
      clear hc2
      have p3 : (0 : Int) ≤ (j : Int) := by omega
      have p4 : (j : Int) < (s.size : Int) := by omega
      have p5 : decide ((j : Int) - (f : Int) < 11) = true := decide_eq_true (by have := HJ.out; have := HM.out; omega)
      have p6 : (f : Int) ≤ (j : Int) := by have := HM.out; omega
      have p7 : (f : Int) ≤ 9223372036854775807 := by omega
      have hv := digit_val HT.out (j - f) (by have := HJ.out; have := HM.out; omega)
      have HS := mk0 hsn
      clear hsn
      generalize valD (T.take (j - f)) = v at hv HS ⊢
      obtain ⟨v0, v1⟩ := hv
      have u0 := cb.toNat_lt
      have u1 : (0 : Int) ≤ (cb.toNat : Int) := by omega
      have u2 : (cb.toNat : Int) < 256 := by omega
      go_wp2_with fail
      refine (rdigit_calls cb _).mono ?_
      rintro e w3 ⟨rfl, rfl⟩
      rw [hdg]
      go_wp2_with fail
      go_roundg (gk - 1)
      case measure => have := HM.out; omega
      case rel => exact ⟨j + 1, ⟨by have := HM.out; omega, by omega, by have := HM.out; omega⟩, by rw [HS.out]; congr 1; omega, rfl, rfl⟩
     ·
      have HJJ := mk0 (show j = f + J by have := HM.out; omega)
      have p6 : (f : Int) ≤ (j : Int) := by have := HM.out; omega
      have p10 : (j : Int) ≤ (s.size : Int) := by have := HJJ.out; have := HJ.out; have := HTL.out; omega
      clear hj
      by_cases hA : T = []
      ·
       have b1 : ((j : Int) == (f : Int)) = true := by simp; have := HJJ.out; have := HJ.out; rw [hA] at this; simp at this; omega
       have HRV := mk0 (HBAD.out (Or.inl hA))
       clear hA
       by_cases hjs : j < s.size
       ·
        obtain ⟨cb, hc2⟩ : ∃ c, s[j]'hjs = c := ⟨_, rfl⟩
        have hx2 : ∀ h : j < s.size, s[j]'h = cb := fun _ => hc2
        have p3 : (0 : Int) ≤ (j : Int) := by omega
        have p4 : (j : Int) < (s.size : Int) := by omega
        cases hdg : isD cb with
        | true =>
         have h11 : J = 11 := digit_stop HT.out HJ.out HJJ.out hjs (by rw [hc2]; exact hdg)
         clear hc2
         have q9 : decide ((j : Int) - (f : Int) < 11) = false := decide_eq_false (by have := HJJ.out; omega)
         clear h11
         go_wp2_with fail
         refine (rdigit_calls cb _).mono ?_
         rintro e w3 ⟨rfl, rfl⟩
         rw [hdg]
         go_wp2_with fail
         refine (rbad_calls s (f : Int) (f : Int) false _).mono ?_
         rintro e w3 ⟨rfl, hb⟩
         clear c0 c1 c2 f0 f1 f2 d0 d1 d2 g0 g1 g2
         have k1_ := mk0 ((hb.block _ (blk_lt KB1.out)).trans KB1.out)
         have k2_ := mk0 ((hb.block _ (blk_lt KB2.out)).trans KB2.out)
         have n_ := mk0 (below_then HB.out HB.out.size hb)
         clear KB1 KB2 HB hb
         have KB1 := k1_
         have KB2 := k2_
         have HB := n_
         clear k1_ k2_ n_
         obtain ⟨c0, c1, c2, f0, f1, f2⟩ := spot_cells KB1.out
         obtain ⟨d0, d1, d2, g0, g1, g2⟩ := spot_cells KB2.out
         unfold spotV
         go_wp2
         refine bodyPost_ret (v := .tuple #[.agg #[.string s, .int .i64 (f : Int), .bool true], .int .i64 0]) (by simp [results, Tryz.results102, go_sem, d0, d1, d2]) rfl ⟨congrArg Ending.returned HRV.out.symm, spot_below HB.out (Nat.le_succ w.heap.size) s (f : Int) true⟩
        | false =>
         clear hc2
         go_wp2_with fail
         refine (rdigit_calls cb _).mono ?_
         rintro e w3 ⟨rfl, rfl⟩
         rw [hdg]
         go_wp2_with fail
         refine (rbad_calls s (f : Int) (f : Int) false _).mono ?_
         rintro e w3 ⟨rfl, hb⟩
         clear c0 c1 c2 f0 f1 f2 d0 d1 d2 g0 g1 g2
         have k1_ := mk0 ((hb.block _ (blk_lt KB1.out)).trans KB1.out)
         have k2_ := mk0 ((hb.block _ (blk_lt KB2.out)).trans KB2.out)
         have n_ := mk0 (below_then HB.out HB.out.size hb)
         clear KB1 KB2 HB hb
         have KB1 := k1_
         have KB2 := k2_
         have HB := n_
         clear k1_ k2_ n_
         obtain ⟨c0, c1, c2, f0, f1, f2⟩ := spot_cells KB1.out
         obtain ⟨d0, d1, d2, g0, g1, g2⟩ := spot_cells KB2.out
         unfold spotV
         go_wp2
         refine bodyPost_ret (v := .tuple #[.agg #[.string s, .int .i64 (f : Int), .bool true], .int .i64 0]) (by simp [results, Tryz.results102, go_sem, d0, d1, d2]) rfl ⟨congrArg Ending.returned HRV.out.symm, spot_below HB.out (Nat.le_succ w.heap.size) s (f : Int) true⟩
       ·
        have p3 : decide ((j : Int) < (s.size : Int)) = false := decide_eq_false (by omega)
        have p3' : decide (j < s.size) = false := decide_eq_false (by omega)
        clear hjs
        go_wp2_with fail
        refine (rbad_calls s (f : Int) (f : Int) false _).mono ?_
        rintro e w3 ⟨rfl, hb⟩
        clear c0 c1 c2 f0 f1 f2 d0 d1 d2 g0 g1 g2
        have k1_ := mk0 ((hb.block _ (blk_lt KB1.out)).trans KB1.out)
        have k2_ := mk0 ((hb.block _ (blk_lt KB2.out)).trans KB2.out)
        have n_ := mk0 (below_then HB.out HB.out.size hb)
        clear KB1 KB2 HB hb
        have KB1 := k1_
        have KB2 := k2_
        have HB := n_
        clear k1_ k2_ n_
        obtain ⟨c0, c1, c2, f0, f1, f2⟩ := spot_cells KB1.out
        obtain ⟨d0, d1, d2, g0, g1, g2⟩ := spot_cells KB2.out
        unfold spotV
        go_wp2
        refine bodyPost_ret (v := .tuple #[.agg #[.string s, .int .i64 (f : Int), .bool true], .int .i64 0]) (by simp [results, Tryz.results102, go_sem, d0, d1, d2]) rfl ⟨congrArg Ending.returned HRV.out.symm, spot_below HB.out (Nat.le_succ w.heap.size) s (f : Int) true⟩
      have hT0 : 0 < T.length := List.length_pos_iff.mpr hA
      have b1 : ((j : Int) == (f : Int)) = false := by simp; have := HJJ.out; have := HJ.out; omega
      by_cases hB : 10 < T.length
      ·
       have HRV := mk0 (HBAD.out (Or.inr (Or.inl hB)))
       have b2 : decide (10 < (j : Int) - (f : Int)) = true := decide_eq_true (by have := HJJ.out; have := HJ.out; omega)
       clear hA hB hT0
       by_cases hjs : j < s.size
       ·
        obtain ⟨cb, hc2⟩ : ∃ c, s[j]'hjs = c := ⟨_, rfl⟩
        have hx2 : ∀ h : j < s.size, s[j]'h = cb := fun _ => hc2
        have p3 : (0 : Int) ≤ (j : Int) := by omega
        have p4 : (j : Int) < (s.size : Int) := by omega
        cases hdg : isD cb with
        | true =>
         have h11 : J = 11 := digit_stop HT.out HJ.out HJJ.out hjs (by rw [hc2]; exact hdg)
         clear hc2
         have q9 : decide ((j : Int) - (f : Int) < 11) = false := decide_eq_false (by have := HJJ.out; omega)
         clear h11
         go_wp2_with fail
         refine (rdigit_calls cb _).mono ?_
         rintro e w3 ⟨rfl, rfl⟩
         rw [hdg]
         go_wp2_with fail
         refine (rbad_calls s (f : Int) (f : Int) false _).mono ?_
         rintro e w3 ⟨rfl, hb⟩
         clear c0 c1 c2 f0 f1 f2 d0 d1 d2 g0 g1 g2
         have k1_ := mk0 ((hb.block _ (blk_lt KB1.out)).trans KB1.out)
         have k2_ := mk0 ((hb.block _ (blk_lt KB2.out)).trans KB2.out)
         have n_ := mk0 (below_then HB.out HB.out.size hb)
         clear KB1 KB2 HB hb
         have KB1 := k1_
         have KB2 := k2_
         have HB := n_
         clear k1_ k2_ n_
         obtain ⟨c0, c1, c2, f0, f1, f2⟩ := spot_cells KB1.out
         obtain ⟨d0, d1, d2, g0, g1, g2⟩ := spot_cells KB2.out
         unfold spotV
         go_wp2
         refine bodyPost_ret (v := .tuple #[.agg #[.string s, .int .i64 (f : Int), .bool true], .int .i64 0]) (by simp [results, Tryz.results102, go_sem, d0, d1, d2]) rfl ⟨congrArg Ending.returned HRV.out.symm, spot_below HB.out (Nat.le_succ w.heap.size) s (f : Int) true⟩
        | false =>
         clear hc2
         go_wp2_with fail
         refine (rdigit_calls cb _).mono ?_
         rintro e w3 ⟨rfl, rfl⟩
         rw [hdg]
         go_wp2_with fail
         refine (rbad_calls s (f : Int) (f : Int) false _).mono ?_
         rintro e w3 ⟨rfl, hb⟩
         clear c0 c1 c2 f0 f1 f2 d0 d1 d2 g0 g1 g2
         have k1_ := mk0 ((hb.block _ (blk_lt KB1.out)).trans KB1.out)
         have k2_ := mk0 ((hb.block _ (blk_lt KB2.out)).trans KB2.out)
         have n_ := mk0 (below_then HB.out HB.out.size hb)
         clear KB1 KB2 HB hb
         have KB1 := k1_
         have KB2 := k2_
         have HB := n_
         clear k1_ k2_ n_
         obtain ⟨c0, c1, c2, f0, f1, f2⟩ := spot_cells KB1.out
         obtain ⟨d0, d1, d2, g0, g1, g2⟩ := spot_cells KB2.out
         unfold spotV
         go_wp2
         refine bodyPost_ret (v := .tuple #[.agg #[.string s, .int .i64 (f : Int), .bool true], .int .i64 0]) (by simp [results, Tryz.results102, go_sem, d0, d1, d2]) rfl ⟨congrArg Ending.returned HRV.out.symm, spot_below HB.out (Nat.le_succ w.heap.size) s (f : Int) true⟩
       ·
        have p3 : decide ((j : Int) < (s.size : Int)) = false := decide_eq_false (by omega)
        have p3' : decide (j < s.size) = false := decide_eq_false (by omega)
        clear hjs
        go_wp2_with fail
        refine (rbad_calls s (f : Int) (f : Int) false _).mono ?_
        rintro e w3 ⟨rfl, hb⟩
        clear c0 c1 c2 f0 f1 f2 d0 d1 d2 g0 g1 g2
        have k1_ := mk0 ((hb.block _ (blk_lt KB1.out)).trans KB1.out)
        have k2_ := mk0 ((hb.block _ (blk_lt KB2.out)).trans KB2.out)
        have n_ := mk0 (below_then HB.out HB.out.size hb)
        clear KB1 KB2 HB hb
        have KB1 := k1_
        have KB2 := k2_
        have HB := n_
        clear k1_ k2_ n_
        obtain ⟨c0, c1, c2, f0, f1, f2⟩ := spot_cells KB1.out
        obtain ⟨d0, d1, d2, g0, g1, g2⟩ := spot_cells KB2.out
        unfold spotV
        go_wp2
        refine bodyPost_ret (v := .tuple #[.agg #[.string s, .int .i64 (f : Int), .bool true], .int .i64 0]) (by simp [results, Tryz.results102, go_sem, d0, d1, d2]) rfl ⟨congrArg Ending.returned HRV.out.symm, spot_below HB.out (Nat.le_succ w.heap.size) s (f : Int) true⟩
      have b2 : decide (10 < (j : Int) - (f : Int)) = false := decide_eq_false (by have := HJJ.out; have := HJ.out; omega)
      have hJT : J = T.length := by have := HJ.out; omega
      have hjf : j - f = T.length := by have := HJJ.out; omega
      rw [hjf, List.take_length]
      obtain ⟨hfs, hf0⟩ := digit_first HT.out hT0
      have g1 : (f : Int) < (s.size : Int) := by omega
      have g2 : (0 : Int) ≤ (f : Int) := by omega
      have HJ2 := mk0 hJT
      have hx3 : ∀ h : f < s.size, ∃ c, s[f]'h = c ∧ (dropB s f).head? = some c := fun h => ⟨_, rfl, hf0⟩
      obtain ⟨c3, hc3, hh3⟩ := hx3 hfs
      have hx4 : ∀ h : f < s.size, s[f]'h = c3 := fun _ => hc3
      have e3 : ((c3.toNat : Int) == (48 : Int)) = decide (c3 = 48) := c_eq (n := 48) (by decide)
      clear hc3 hf0 hx3
      by_cases hC : 1 < T.length ∧ c3 = 48
      ·
       have HRV := mk0 (HBAD.out (Or.inr (Or.inr (Or.inl ⟨hC.1, by rw [hh3, hC.2]⟩))))
       have b3 : decide (1 < (j : Int) - (f : Int)) = true := decide_eq_true (by have := HJJ.out; have := HJ.out; have := HJ2.out; omega)
       rw [decide_eq_true hC.2] at e3
       clear hA hB hT0 hJT hjf hC hh3
       by_cases hjs : j < s.size
       ·
        obtain ⟨cb, hc2⟩ : ∃ c, s[j]'hjs = c := ⟨_, rfl⟩
        have hx2 : ∀ h : j < s.size, s[j]'h = cb := fun _ => hc2
        have p3 : (0 : Int) ≤ (j : Int) := by omega
        have p4 : (j : Int) < (s.size : Int) := by omega
        cases hdg : isD cb with
        | true =>
         have h11 : J = 11 := digit_stop HT.out HJ.out HJJ.out hjs (by rw [hc2]; exact hdg)
         clear hc2
         have q9 : decide ((j : Int) - (f : Int) < 11) = false := decide_eq_false (by have := HJJ.out; omega)
         clear h11
         go_wp2_with fail
         refine (rdigit_calls cb _).mono ?_
         rintro e w3 ⟨rfl, rfl⟩
         rw [hdg]
         go_wp2_with fail
         refine (rbad_calls s (f : Int) (f : Int) false _).mono ?_
         rintro e w3 ⟨rfl, hb⟩
         clear c0 c1 c2 f0 f1 f2 d0 d1 d2 g0 g1 g2
         have k1_ := mk0 ((hb.block _ (blk_lt KB1.out)).trans KB1.out)
         have k2_ := mk0 ((hb.block _ (blk_lt KB2.out)).trans KB2.out)
         have n_ := mk0 (below_then HB.out HB.out.size hb)
         clear KB1 KB2 HB hb
         have KB1 := k1_
         have KB2 := k2_
         have HB := n_
         clear k1_ k2_ n_
         obtain ⟨c0, c1, c2, f0, f1, f2⟩ := spot_cells KB1.out
         obtain ⟨d0, d1, d2, g0, g1, g2⟩ := spot_cells KB2.out
         unfold spotV
         go_wp2
         refine bodyPost_ret (v := .tuple #[.agg #[.string s, .int .i64 (f : Int), .bool true], .int .i64 0]) (by simp [results, Tryz.results102, go_sem, d0, d1, d2]) rfl ⟨congrArg Ending.returned HRV.out.symm, spot_below HB.out (Nat.le_succ w.heap.size) s (f : Int) true⟩
        | false =>
         clear hc2
         go_wp2_with fail
         refine (rdigit_calls cb _).mono ?_
         rintro e w3 ⟨rfl, rfl⟩
         rw [hdg]
         go_wp2_with fail
         refine (rbad_calls s (f : Int) (f : Int) false _).mono ?_
         rintro e w3 ⟨rfl, hb⟩
         clear c0 c1 c2 f0 f1 f2 d0 d1 d2 g0 g1 g2
         have k1_ := mk0 ((hb.block _ (blk_lt KB1.out)).trans KB1.out)
         have k2_ := mk0 ((hb.block _ (blk_lt KB2.out)).trans KB2.out)
         have n_ := mk0 (below_then HB.out HB.out.size hb)
         clear KB1 KB2 HB hb
         have KB1 := k1_
         have KB2 := k2_
         have HB := n_
         clear k1_ k2_ n_
         obtain ⟨c0, c1, c2, f0, f1, f2⟩ := spot_cells KB1.out
         obtain ⟨d0, d1, d2, g0, g1, g2⟩ := spot_cells KB2.out
         unfold spotV
         go_wp2
         refine bodyPost_ret (v := .tuple #[.agg #[.string s, .int .i64 (f : Int), .bool true], .int .i64 0]) (by simp [results, Tryz.results102, go_sem, d0, d1, d2]) rfl ⟨congrArg Ending.returned HRV.out.symm, spot_below HB.out (Nat.le_succ w.heap.size) s (f : Int) true⟩
       ·
        have p3 : decide ((j : Int) < (s.size : Int)) = false := decide_eq_false (by omega)
        have p3' : decide (j < s.size) = false := decide_eq_false (by omega)
        clear hjs
        go_wp2_with fail
        refine (rbad_calls s (f : Int) (f : Int) false _).mono ?_
        rintro e w3 ⟨rfl, hb⟩
        clear c0 c1 c2 f0 f1 f2 d0 d1 d2 g0 g1 g2
        have k1_ := mk0 ((hb.block _ (blk_lt KB1.out)).trans KB1.out)
        have k2_ := mk0 ((hb.block _ (blk_lt KB2.out)).trans KB2.out)
        have n_ := mk0 (below_then HB.out HB.out.size hb)
        clear KB1 KB2 HB hb
        have KB1 := k1_
        have KB2 := k2_
        have HB := n_
        clear k1_ k2_ n_
        obtain ⟨c0, c1, c2, f0, f1, f2⟩ := spot_cells KB1.out
        obtain ⟨d0, d1, d2, g0, g1, g2⟩ := spot_cells KB2.out
        unfold spotV
        go_wp2
        refine bodyPost_ret (v := .tuple #[.agg #[.string s, .int .i64 (f : Int), .bool true], .int .i64 0]) (by simp [results, Tryz.results102, go_sem, d0, d1, d2]) rfl ⟨congrArg Ending.returned HRV.out.symm, spot_below HB.out (Nat.le_succ w.heap.size) s (f : Int) true⟩
      have hz : f + T.length = j := by have := HJJ.out; omega
      have HRV := mk0 (HGOOD.out hA hB (fun h => hC ⟨h.1, by have := h.2; rw [hh3] at this; injection this⟩) (by omega))
      rw [dig_end HT.out hT0, hz, Int.one_mul] at HRV
      by_cases h1 : 1 < T.length
      ·
       have b3 : decide (1 < (j : Int) - (f : Int)) = true := decide_eq_true (by have := HJJ.out; have := HJ.out; have := HJ2.out; omega)
       rw [decide_eq_false (fun h => hC ⟨h1, h⟩)] at e3
       clear hA hB hT0 hJT hjf hC hh3 hz h1
       by_cases hjs : j < s.size
       ·
        obtain ⟨cb, hc2⟩ : ∃ c, s[j]'hjs = c := ⟨_, rfl⟩
        have hx2 : ∀ h : j < s.size, s[j]'h = cb := fun _ => hc2
        have p3 : (0 : Int) ≤ (j : Int) := by omega
        have p4 : (j : Int) < (s.size : Int) := by omega
        cases hdg : isD cb with
        | true =>
         have h11 : J = 11 := digit_stop HT.out HJ.out HJJ.out hjs (by rw [hc2]; exact hdg)
         clear hc2
         have q9 : decide ((j : Int) - (f : Int) < 11) = false := decide_eq_false (by have := HJJ.out; omega)
         clear h11
         go_wp2_with fail
         refine (rdigit_calls cb _).mono ?_
         rintro e w3 ⟨rfl, rfl⟩
         rw [hdg]
         have p8 : (0 : Int) ≤ (j : Int) := by omega
         go_wp2
         refine bodyPost_ret (v := .tuple #[.agg #[.string s, .int .i64 ((j : Nat) : Int), .bool false], .int .i64 (valD T)]) (by simp [results, Tryz.results102, go_sem, d0, d1, d2]) rfl ⟨congrArg Ending.returned HRV.out.symm, spot_below (HB.out.setCell (p := ⟨w.heap.size, 1, none⟩) (Nat.le_refl w.heap.size) _) (Nat.le_succ w.heap.size) s ((j : Nat) : Int) false⟩
        | false =>
         clear hc2
         go_wp2_with fail
         refine (rdigit_calls cb _).mono ?_
         rintro e w3 ⟨rfl, rfl⟩
         rw [hdg]
         have p8 : (0 : Int) ≤ (j : Int) := by omega
         go_wp2
         refine bodyPost_ret (v := .tuple #[.agg #[.string s, .int .i64 ((j : Nat) : Int), .bool false], .int .i64 (valD T)]) (by simp [results, Tryz.results102, go_sem, d0, d1, d2]) rfl ⟨congrArg Ending.returned HRV.out.symm, spot_below (HB.out.setCell (p := ⟨w.heap.size, 1, none⟩) (Nat.le_refl w.heap.size) _) (Nat.le_succ w.heap.size) s ((j : Nat) : Int) false⟩
       ·
        have p3 : decide ((j : Int) < (s.size : Int)) = false := decide_eq_false (by omega)
        have p3' : decide (j < s.size) = false := decide_eq_false (by omega)
        clear hjs
        have p8 : (0 : Int) ≤ (j : Int) := by omega
        go_wp2
        refine bodyPost_ret (v := .tuple #[.agg #[.string s, .int .i64 ((j : Nat) : Int), .bool false], .int .i64 (valD T)]) (by simp [results, Tryz.results102, go_sem, d0, d1, d2]) rfl ⟨congrArg Ending.returned HRV.out.symm, spot_below (HB.out.setCell (p := ⟨w.heap.size, 1, none⟩) (Nat.le_refl w.heap.size) _) (Nat.le_succ w.heap.size) s ((j : Nat) : Int) false⟩
      ·
       have b3 : decide (1 < (j : Int) - (f : Int)) = false := decide_eq_false (by have := HJJ.out; have := HJ.out; have := HJ2.out; omega)
       clear hA hB hT0 hJT hjf hC hh3 hz h1 e3
       by_cases hjs : j < s.size
       ·
        obtain ⟨cb, hc2⟩ : ∃ c, s[j]'hjs = c := ⟨_, rfl⟩
        have hx2 : ∀ h : j < s.size, s[j]'h = cb := fun _ => hc2
        have p3 : (0 : Int) ≤ (j : Int) := by omega
        have p4 : (j : Int) < (s.size : Int) := by omega
        cases hdg : isD cb with
        | true =>
         have h11 : J = 11 := digit_stop HT.out HJ.out HJJ.out hjs (by rw [hc2]; exact hdg)
         clear hc2
         have q9 : decide ((j : Int) - (f : Int) < 11) = false := decide_eq_false (by have := HJJ.out; omega)
         clear h11
         go_wp2_with fail
         refine (rdigit_calls cb _).mono ?_
         rintro e w3 ⟨rfl, rfl⟩
         rw [hdg]
         have p8 : (0 : Int) ≤ (j : Int) := by omega
         go_wp2
         refine bodyPost_ret (v := .tuple #[.agg #[.string s, .int .i64 ((j : Nat) : Int), .bool false], .int .i64 (valD T)]) (by simp [results, Tryz.results102, go_sem, d0, d1, d2]) rfl ⟨congrArg Ending.returned HRV.out.symm, spot_below (HB.out.setCell (p := ⟨w.heap.size, 1, none⟩) (Nat.le_refl w.heap.size) _) (Nat.le_succ w.heap.size) s ((j : Nat) : Int) false⟩
        | false =>
         clear hc2
         go_wp2_with fail
         refine (rdigit_calls cb _).mono ?_
         rintro e w3 ⟨rfl, rfl⟩
         rw [hdg]
         have p8 : (0 : Int) ≤ (j : Int) := by omega
         go_wp2
         refine bodyPost_ret (v := .tuple #[.agg #[.string s, .int .i64 ((j : Nat) : Int), .bool false], .int .i64 (valD T)]) (by simp [results, Tryz.results102, go_sem, d0, d1, d2]) rfl ⟨congrArg Ending.returned HRV.out.symm, spot_below (HB.out.setCell (p := ⟨w.heap.size, 1, none⟩) (Nat.le_refl w.heap.size) _) (Nat.le_succ w.heap.size) s ((j : Nat) : Int) false⟩
       ·
        have p3 : decide ((j : Int) < (s.size : Int)) = false := decide_eq_false (by omega)
        have p3' : decide (j < s.size) = false := decide_eq_false (by omega)
        clear hjs
        have p8 : (0 : Int) ≤ (j : Int) := by omega
        go_wp2
        refine bodyPost_ret (v := .tuple #[.agg #[.string s, .int .i64 ((j : Nat) : Int), .bool false], .int .i64 (valD T)]) (by simp [results, Tryz.results102, go_sem, d0, d1, d2]) rfl ⟨congrArg Ending.returned HRV.out.symm, spot_below (HB.out.setCell (p := ⟨w.heap.size, 1, none⟩) (Nat.le_refl w.heap.size) _) (Nat.le_succ w.heap.size) s ((j : Nat) : Int) false⟩
end Go.Proofs.YtlokmijoaocofaaGreatDoor.Mine
end
