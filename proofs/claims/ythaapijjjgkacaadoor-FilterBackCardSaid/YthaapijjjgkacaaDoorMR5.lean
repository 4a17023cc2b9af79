/-
  Texts of this claim, one behind the other: what each one proves, and its conditions, stand at its head.
-/
import Derived.Test.YthaapijjjgkacaaDoorMR4
import Derived.Laws.Concat
set_option linter.unusedSimpArgs false
set_option linter.unusedVariables false
section
/-
  The reference's parser of filters, walked: number. Conditions: the text at most 1000 bytes.
-/
namespace Go.Proofs.YthaapijjjgkacaaDoor.Mine
open Go.RowKit Go.Proofs.YthaapijjjgkacaaDoorW.PrintWords Go.Proofs.YthaapijjjgkacaaDoorW.PrintLast Go.Proofs.YthaapijjjgkacaaDoorW.PrintMore
open Go.Proofs.YthaapijjjgkacaaDoor.PFilterReads
/-! ### digits -/
theorem tw_isD (l : List UInt8) : ∀ c ∈ l.takeWhile isD, isD c = true := List.all_eq_true.1 (List.all_takeWhile ..)
theorem dw_head (p : UInt8 → Bool) {c : UInt8} {r : List UInt8} : ∀ {l : List UInt8}, l.dropWhile p = c :: r → p c = false
  | [], h => by simp at h
  | x :: l, h => by
    rw [List.dropWhile_cons] at h
    split at h
    · exact dw_head p h
    · rename_i hx
      injection h with h1 _
      rw [← h1]
      simpa using hx
theorem tw_at {s : ByteArray} {f : Nat} {T : List UInt8} (hT : T = (dropB s f).takeWhile isD) (k : Nat) (hk : k < T.length) : ∃ h : f + k < s.size, s[f + k]'h = T[k] := by
  have hp : T <+: dropB s f := by rw [hT]; exact List.takeWhile_prefix _
  have hl := hp.length_le
  rw [dropB_len] at hl
  have h : f + k < s.size := by omega
  refine ⟨h, ?_⟩
  have e := hp.getElem hk
  rw [e]
  unfold dropB
  rw [List.getElem_drop]
  rfl
theorem digit_more {s : ByteArray} {f J j : Nat} {T : List UInt8} (hT : T = (dropB s f).takeWhile isD) (hJ : J = min T.length 11) (h0 : f ≤ j) (h1 : j < f + J) :
    ∃ (h : j < s.size) (c : UInt8), s[j]'h = c ∧ isD c = true ∧ valD (T.take (j + 1 - f)) = 10 * valD (T.take (j - f)) + ((c.toNat : Int) - 48) := by
  have hk : j - f < T.length := by omega
  obtain ⟨h, e⟩ := tw_at hT (j - f) hk
  have hj : f + (j - f) = j := by omega
  refine ⟨by omega, T[j - f], ?_, ?_, ?_⟩
  · rw [← e]
    congr 1
    exact hj.symm
  · have := tw_isD (dropB s f) T[j - f] (by rw [← hT]; exact List.getElem_mem _)
    exact this
  · rw [show j + 1 - f = (j - f) + 1 by omega, List.take_succ_eq_append_getElem hk, valD_snoc]
theorem digit_stop {s : ByteArray} {f J j : Nat} {T : List UInt8} (hT : T = (dropB s f).takeWhile isD) (hJ : J = min T.length 11) (hj : j = f + J) (hs : j < s.size) (hd : isD (s[j]'hs) = true) : J = 11 := by
  apply Classical.byContradiction
  intro hn
  have hJT : J = T.length := by omega
  have e : dropB s f = T ++ (dropB s f).dropWhile isD := by rw [hT]; exact (List.takeWhile_append_dropWhile).symm
  have e2 : dropB s j = (dropB s f).dropWhile isD := by
    have h3 : dropB s j = (dropB s f).drop J := by unfold dropB; rw [List.drop_drop, hj]
    rw [h3, hJT]
    conv => lhs; rw [e]
    simp
  rw [dropB_cons hs] at e2
  have := dw_head isD e2.symm
  rw [hd] at this
  cases this
theorem digit_first {s : ByteArray} {f : Nat} {T : List UInt8} (hT : T = (dropB s f).takeWhile isD) (h : 0 < T.length) : ∃ h : f < s.size, (dropB s f).head? = some (s[f]'h) := by
  obtain ⟨h2, _⟩ := tw_at hT 0 h
  have h3 : f < s.size := h2
  refine ⟨h3, ?_⟩
  rw [dropB_cons h3]
  rfl
theorem digit_val {s : ByteArray} {f : Nat} {T : List UInt8} (hT : T = (dropB s f).takeWhile isD) (k : Nat) (hk : k ≤ 11) : 0 ≤ valD (T.take k) ∧ valD (T.take k) ≤ 100000000000 := by
  have hb := valD_bounds (T.take k) (fun c hc => tw_isD (dropB s f) c (by rw [← hT]; exact List.mem_of_mem_take hc))
  have hl : (T.take k).length ≤ 11 := Nat.le_trans (List.length_take_le _ _) hk
  have h3 : (10 : Int) ^ (T.take k).length ≤ 10 ^ 11 := by exact_mod_cast Nat.pow_le_pow_right (by omega : 0 < 10) hl
  have : (10 : Int) ^ 11 = 100000000000 := by decide
  omega
theorem stV_of_bad {s : ByteArray} {st : St} {n : Nat} (h : st.bad = some n) : stV s st = .agg #[.string s, .int .i64 ((s.size - n : Nat) : Int), .bool true] := by
  unfold stV spI spotV
  rw [h]
  rfl
def numRV (s : ByteArray) (x : Int × St) : Value := .tuple #[stV s x.2, .int .i64 (if x.2.bad.isSome then 0 else x.1)]
theorem numRV_bad {s : ByteArray} {frm : Nat} {sg : Int} {d T : List UInt8} (hT : T = d.takeWhile isD) (h : T = [] ∨ 10 < T.length ∨ (1 < T.length ∧ d.head? = some 48) ∨ (sg < 0 ∧ valD T = 0)) :
    numRV s (numD frm sg d) = .tuple #[.agg #[.string s, .int .i64 ((s.size - frm : Nat) : Int), .bool true], .int .i64 0] := by
  have hb : (numD frm sg d).2.bad = some frm := by
    unfold numD
    rw [← hT]
    split
    · rfl
    · rw [if_pos]
      unfold numBad
      rw [← hT]
      rcases h with h | h | h | h
      · exact Or.inl h
      · omega
      · exact Or.inr (Or.inl h)
      · exact Or.inr (Or.inr h)
  unfold numRV
  rw [stV_of_bad hb, hb]
  rfl
theorem numRV_good {s : ByteArray} {frm : Nat} {sg : Int} {d T : List UInt8} (hT : T = d.takeWhile isD) (h1 : T ≠ []) (h2 : ¬ 10 < T.length) (h3 : ¬ (1 < T.length ∧ d.head? = some 48)) (h4 : ¬ (sg < 0 ∧ valD T = 0)) :
    numRV s (numD frm sg d) = .tuple #[.agg #[.string s, .int .i64 ((s.size - (d.dropWhile isD).length : Nat) : Int), .bool false], .int .i64 (sg * valD T)] := by
  have hb : numD frm sg d = (sg * valD T, ⟨d.dropWhile isD, none⟩) := by
    unfold numD
    rw [← hT, if_neg h2, if_neg]
    unfold numBad
    rw [← hT]
    rintro (h | h | h)
    · exact h1 h
    · exact h3 h
    · exact h4 h
  unfold numRV
  rw [hb, stV_good]
  rfl
theorem dig_end {s : ByteArray} {f : Nat} {T : List UInt8} (hT : T = (dropB s f).takeWhile isD) (h : 0 < T.length) : s.size - ((dropB s f).dropWhile isD).length = f + T.length := by
  obtain ⟨h2, _⟩ := tw_at hT 0 h
  have := while_len isD (dropB s f)
  rw [← hT, dropB_len] at this
  omega
set_option maxHeartbeats 4000000 in
set_option maxRecDepth 100000 in
theorem rnumber_calls (s : ByteArray) (st : St) (w : World) (hs : s.size ≤ 1000) (hok : st.ok (bytes s)) :
    Calls Tryd.prog 70 #[stV s st] w fun e w' => e = .returned (numRV s (numberS st)) ∧ Below w.heap.size w w' := by
  have hok1 := blanksS_ok hok
  have hbl := fun w => rblanks_calls s st w hs hok
  obtain ⟨l, bad⟩ := st
  cases bad with
  | some n =>
    rw [numberS_bad rfl]
    rw [blanksS_bad rfl] at hbl
    show Calls _ _ _ w fun e w' => e = .returned (.tuple #[stV s ⟨l, some n⟩, .int .i64 0]) ∧ _
    rw [stV_bad] at hbl ⊢
    generalize ((s.size - n : Nat) : Int) = i at hbl ⊢
    -- the two blocks of the call's own, at its beginning
    obtain ⟨hn1, hn2⟩ := spot_new w s ⟨#[]⟩ i 0 true false
    have KB1 := Aside0.mk hn1
    have KB2 := Aside0.mk hn2
    have HB := Aside0.mk (below_alloc (below_alloc (Below.refl w.heap.size w) (.cells #[.string s, .int .i64 i, .bool true] 83)) (.cells #[.string ⟨#[]⟩, .int .i64 0, .bool false] 83))
    clear hn1 hn2
    go_enter Tryd.func70, Tryd.ntmps70
    -- the first call, its spot stored into block 1
    go_wp2_with fail
    refine (hbl _).mono ?_
    rintro e w1 ⟨rfl, hb⟩
    -- behind a call: the two blocks of the call's own
    have k1_ := Aside0.mk ((hb.block _ (blk_lt KB1.out)).trans KB1.out)
    have k2_ := Aside0.mk ((hb.block _ (blk_lt KB2.out)).trans KB2.out)
    have n_ := Aside0.mk (below_then HB.out HB.out.size hb)
    clear KB1 KB2 HB hb
    have KB1 := k1_
    have KB2 := k2_
    have HB := n_
    clear k1_ k2_ n_
    obtain ⟨c0, c1, c2, f0, f1, f2⟩ := spot_cells KB1.out
    obtain ⟨d0, d1, d2, g0, g1, g2⟩ := spot_cells KB2.out
    go_upto_region 2 with (fail)
    clear c0 c1 c2 f0 f1 f2 d0 d1 d2 g0 g1 g2
    -- block 1 gets a spot
    have k1_ := Aside0.mk (spot_set KB1.out s i true)
    have k2_ := Aside0.mk (spot_far KB2.out (show w.heap.size + 1 ≠ w.heap.size by omega) s i true)
    have n_ := Aside0.mk (spot_below HB.out (Nat.le_refl w.heap.size) s i true)
    clear KB1 KB2 HB
    have KB1 := k1_
    have KB2 := k2_
    have HB := n_
    clear k1_ k2_ n_
    -- the world behind a store of a spot into block 1 gets a name
    generalize (((w1.setCell ⟨w.heap.size, 0, none⟩ (.string s)).setCell ⟨w.heap.size, 1, none⟩ (.int .i64 i)).setCell ⟨w.heap.size, 2, none⟩ (.bool true)) = w2 at KB1 KB2 HB ⊢
    obtain ⟨c0, c1, c2, f0, f1, f2⟩ := spot_cells KB1.out
    obtain ⟨d0, d1, d2, g0, g1, g2⟩ := spot_cells KB2.out
    go_wp2
    refine bodyPost_ret (v := .tuple #[.agg #[.string s, .int .i64 i, .bool true], .int .i64 0]) (by simp [results, Tryd.results70, go_sem, d0, d1, d2]) rfl ⟨rfl, spot_below HB.out (Nat.le_succ w.heap.size) s i true⟩
  | none =>
    rw [stV_good] at hbl ⊢
    have e1 : blanksS ⟨l, none⟩ = ⟨skip l, none⟩ := rfl
    have e2 : numberS ⟨l, none⟩ = numL (skip l) := rfl
    rw [e1] at hbl hok1
    rw [stV_good] at hbl
    rw [e2]
    have hle := P_le hok1
    have hsuf : skip l <:+ bytes s := hok1.1
    have hd := suf_drop hsuf
    simp only at hle
    generalize skip l = L at hbl hle hd ⊢
    generalize ((s.size - l.length : Nat) : Int) = i0 at hbl ⊢
    obtain ⟨i, hi⟩ : ∃ i, s.size - L.length = i := ⟨_, rfl⟩
    rw [hi] at hbl hd
    have hiz : i ≤ s.size := by omega
    have hli : s.size - L.length = i := hi
    clear hok hok1 hsuf hi e1 e2
    -- the two blocks of the call's own, at its beginning
    obtain ⟨hn1, hn2⟩ := spot_new w s ⟨#[]⟩ i0 0 false false
    have KB1 := Aside0.mk hn1
    have KB2 := Aside0.mk hn2
    have HB := Aside0.mk (below_alloc (below_alloc (Below.refl w.heap.size w) (.cells #[.string s, .int .i64 i0, .bool false] 83)) (.cells #[.string ⟨#[]⟩, .int .i64 0, .bool false] 83))
    clear hn1 hn2
    cases L with
    | nil =>
      have hn : numL [] = numD 0 1 [] := rfl
      rw [hn]
      have hii : i = s.size := by simp at hli; omega
      have q1 : decide ((i : Int) < (s.size : Int)) = false := decide_eq_false (by omega)
      have q0 : decide (i < s.size) = false := decide_eq_false (by omega)
      rw [numRV_bad (T := []) rfl (Or.inl rfl), show s.size - 0 = i by omega]
      clear hn hd hli hii
      go_enter Tryd.func70, Tryd.ntmps70
      -- the first call, its spot stored into block 1
      go_wp2_with fail
      refine (hbl _).mono ?_
      rintro e w1 ⟨rfl, hb⟩
      -- behind a call: the two blocks of the call's own
      have k1_ := Aside0.mk ((hb.block _ (blk_lt KB1.out)).trans KB1.out)
      have k2_ := Aside0.mk ((hb.block _ (blk_lt KB2.out)).trans KB2.out)
      have n_ := Aside0.mk (below_then HB.out HB.out.size hb)
      clear KB1 KB2 HB hb
      have KB1 := k1_
      have KB2 := k2_
      have HB := n_
      clear k1_ k2_ n_
      obtain ⟨c0, c1, c2, f0, f1, f2⟩ := spot_cells KB1.out
      obtain ⟨d0, d1, d2, g0, g1, g2⟩ := spot_cells KB2.out
      go_upto_region 2 with (fail)
      clear c0 c1 c2 f0 f1 f2 d0 d1 d2 g0 g1 g2
      -- block 1 gets a spot
      have k1_ := Aside0.mk (spot_set KB1.out s (i : Int) false)
      have k2_ := Aside0.mk (spot_far KB2.out (show w.heap.size + 1 ≠ w.heap.size by omega) s (i : Int) false)
      have n_ := Aside0.mk (spot_below HB.out (Nat.le_refl w.heap.size) s (i : Int) false)
      clear KB1 KB2 HB
      have KB1 := k1_
      have KB2 := k2_
      have HB := n_
      clear k1_ k2_ n_
      -- the world behind a store of a spot into block 1 gets a name
      generalize (((w1.setCell ⟨w.heap.size, 0, none⟩ (.string s)).setCell ⟨w.heap.size, 1, none⟩ (.int .i64 (i : Int))).setCell ⟨w.heap.size, 2, none⟩ (.bool false)) = w2 at KB1 KB2 HB ⊢
      obtain ⟨c0, c1, c2, f0, f1, f2⟩ := spot_cells KB1.out
      obtain ⟨d0, d1, d2, g0, g1, g2⟩ := spot_cells KB2.out
      go_wp2_with fail
      go_loopg [6, 7] 1 (fun k n t wr => n = .int .i64 0 ∧ t = .int .i64 (i : Int) ∧ wr = w2)
      case atStart => exact ⟨rfl, rfl, rfl⟩
      case round =>
        obtain ⟨rfl, rfl, rfl⟩ := hrel
        -- behind the loop, a bad number
        go_wp2_with fail
        -- 'return bad(p, j), 0'
        refine (rbad_calls s (i : Int) (i : Int) false _).mono ?_
        rintro e w3 ⟨rfl, hb⟩
        clear c0 c1 c2 f0 f1 f2 d0 d1 d2 g0 g1 g2
        -- behind a call: the two blocks of the call's own
        have k1_ := Aside0.mk ((hb.block _ (blk_lt KB1.out)).trans KB1.out)
        have k2_ := Aside0.mk ((hb.block _ (blk_lt KB2.out)).trans KB2.out)
        have n_ := Aside0.mk (below_then HB.out HB.out.size hb)
        clear KB1 KB2 HB hb
        have KB1 := k1_
        have KB2 := k2_
        have HB := n_
        clear k1_ k2_ n_
        obtain ⟨c0, c1, c2, f0, f1, f2⟩ := spot_cells KB1.out
        obtain ⟨d0, d1, d2, g0, g1, g2⟩ := spot_cells KB2.out
        unfold spotV
        go_wp2
        refine bodyPost_ret (v := .tuple #[.agg #[.string s, .int .i64 (i : Int), .bool true], .int .i64 0]) (by simp [results, Tryd.results70, go_sem, d0, d1, d2]) rfl ⟨rfl, spot_below HB.out (Nat.le_succ w.heap.size) s (i : Int) true⟩
    | cons c r =>
      obtain ⟨hlt, _, h3⟩ := bt_cons hd.symm
      have hx : ∀ h : i < s.size, s[i]'h = c := fun h => by
        rw [dropB_cons h] at hd
        injection hd with hd1 _
        exact hd1.symm
      have p1 : (0 : Int) ≤ (i : Int) := by omega
      have p2 : (i : Int) < (s.size : Int) := by omega
      have hfr : s.size - (r.length + 1) = i := by simpa using hli
      by_cases h45 : c = 45
      · subst h45
        have hn : numL (45 :: r) = numD (r.length + 1) (-1) r := by simp [numL]
        rw [hn]
        subst h3
        obtain ⟨f, hf⟩ : ∃ f, i + 1 = f := ⟨_, rfl⟩
        rw [hf] at hfr ⊢
        have hfz : f ≤ s.size := by omega
        obtain ⟨T, hT⟩ : ∃ T, T = (dropB s f).takeWhile isD := ⟨_, rfl⟩
        obtain ⟨J, hJ⟩ : ∃ J, J = min T.length 11 := ⟨_, rfl⟩
        have HTL := Aside0.mk (show f + T.length ≤ s.size by have h := (List.takeWhile_prefix (l := dropB s f) isD).length_le; rw [← hT, dropB_len] at h; omega)
        have HBAD := Aside0.mk (numRV_bad (s := s) (frm := (dropB s f).length + 1) (sg := -1) hT)
        have HGOOD := Aside0.mk (numRV_good (s := s) (frm := (dropB s f).length + 1) (sg := -1) hT)
        rw [hfr] at HBAD
        have HT := Aside0.mk hT
        have HJ := Aside0.mk hJ
        have HF := Aside0.mk hf
        clear hT hJ hn hd hli hfr hf
        generalize numRV s (numD ((dropB s f).length + 1) (-1) (dropB s f)) = RV at HBAD HGOOD ⊢
        go_enter Tryd.func70, Tryd.ntmps70
        -- the first call, its spot stored into block 1
        go_wp2_with fail
        refine (hbl _).mono ?_
        rintro e w1 ⟨rfl, hb⟩
        -- behind a call: the two blocks of the call's own
        have k1_ := Aside0.mk ((hb.block _ (blk_lt KB1.out)).trans KB1.out)
        have k2_ := Aside0.mk ((hb.block _ (blk_lt KB2.out)).trans KB2.out)
        have n_ := Aside0.mk (below_then HB.out HB.out.size hb)
        clear KB1 KB2 HB hb
        have KB1 := k1_
        have KB2 := k2_
        have HB := n_
        clear k1_ k2_ n_
        obtain ⟨c0, c1, c2, f0, f1, f2⟩ := spot_cells KB1.out
        obtain ⟨d0, d1, d2, g0, g1, g2⟩ := spot_cells KB2.out
        go_upto_region 2 with (fail)
        clear c0 c1 c2 f0 f1 f2 d0 d1 d2 g0 g1 g2
        -- block 1 gets a spot
        have k1_ := Aside0.mk (spot_set KB1.out s (i : Int) false)
        have k2_ := Aside0.mk (spot_far KB2.out (show w.heap.size + 1 ≠ w.heap.size by omega) s (i : Int) false)
        have n_ := Aside0.mk (spot_below HB.out (Nat.le_refl w.heap.size) s (i : Int) false)
        clear KB1 KB2 HB
        have KB1 := k1_
        have KB2 := k2_
        have HB := n_
        clear k1_ k2_ n_
        -- the world behind a store of a spot into block 1 gets a name
        generalize (((w1.setCell ⟨w.heap.size, 0, none⟩ (.string s)).setCell ⟨w.heap.size, 1, none⟩ (.int .i64 (i : Int))).setCell ⟨w.heap.size, 2, none⟩ (.bool false)) = w2 at KB1 KB2 HB ⊢
        obtain ⟨c0, c1, c2, f0, f1, f2⟩ := spot_cells KB1.out
        obtain ⟨d0, d1, d2, g0, g1, g2⟩ := spot_cells KB2.out
        go_wp2_with fail
        have ef : (i : Int) + 1 = (f : Int) := by have := HF.out; omega
        rw [ef]
        clear ef hx p1 p2 hlt
        go_wp2_with fail
        go_loopg [6, 7] (s.size + 2) (fun k n t wr => ∃ j : Nat, Aside0 (f ≤ j ∧ j ≤ f + J ∧ (J + f) - j < k) ∧ n = .int .i64 (valD (T.take (j - f))) ∧ t = .int .i64 (j : Int) ∧ wr = w2)
        case atStart => exact ⟨f, ⟨Nat.le_refl _, by omega, by have := HJ.out; have := HTL.out; omega⟩, by rw [Nat.sub_self]; rfl, rfl, rfl⟩
        case round =>
          obtain ⟨j, HM, rfl, rfl, rfl⟩ := hrel
          by_cases hj : j < f + J
          · obtain ⟨hjs, cb, hc2, hdg, hsn⟩ := digit_more HT.out HJ.out HM.out.1 hj
            have hx2 : ∀ h : j < s.size, s[j]'h = cb := fun _ => hc2
            clear hc2
            have p3 : (0 : Int) ≤ (j : Int) := by omega
            have p4 : (j : Int) < (s.size : Int) := by omega
            have p5 : decide ((j : Int) - (f : Int) < 11) = true := decide_eq_true (by have := HJ.out; have := HM.out; omega)
            have p6 : (f : Int) ≤ (j : Int) := by have := HM.out; omega
            have p7 : (f : Int) ≤ 9223372036854775807 := by omega
            have hv := digit_val HT.out (j - f) (by have := HJ.out; have := HM.out; omega)
            have HS := Aside0.mk hsn
            clear hsn
            generalize valD (T.take (j - f)) = v at hv HS ⊢
            obtain ⟨v0, v1⟩ := hv
            have u0 := cb.toNat_lt
            have u1 : (0 : Int) ≤ (cb.toNat : Int) := by omega
            have u2 : (cb.toNat : Int) < 256 := by omega
            go_wp2_with fail
            refine (rdigit_calls cb _).mono ?_
            rintro e w3 ⟨rfl, rfl⟩
            rw [hdg]
            go_wp2_with fail
            go_roundg (gk - 1)
            case measure => have := HM.out; omega
            case rel => exact ⟨j + 1, ⟨by have := HM.out; omega, by omega, by have := HM.out; omega⟩, by rw [HS.out]; congr 1; omega, rfl, rfl⟩
          · have HJJ := Aside0.mk (show j = f + J by have := HM.out; omega)
            have p6 : (f : Int) ≤ (j : Int) := by have := HM.out; omega
            have p10 : (j : Int) ≤ (s.size : Int) := by have := HJJ.out; have := HJ.out; have := HTL.out; omega
            clear hj
            by_cases hA : T = []
            · have b1 : ((j : Int) == (f : Int)) = true := by simp; have := HJJ.out; have := HJ.out; rw [hA] at this; simp at this; omega
              have HRV := Aside0.mk (HBAD.out (Or.inl hA))
              clear hA
              -- the loop's test says no
              by_cases hjs : j < s.size
              · obtain ⟨cb, hc2⟩ : ∃ c, s[j]'hjs = c := ⟨_, rfl⟩
                have hx2 : ∀ h : j < s.size, s[j]'h = cb := fun _ => hc2
                have p3 : (0 : Int) ≤ (j : Int) := by omega
                have p4 : (j : Int) < (s.size : Int) := by omega
                cases hdg : isD cb with
                | true =>
                  have h11 : J = 11 := digit_stop HT.out HJ.out HJJ.out hjs (by rw [hc2]; exact hdg)
                  clear hc2
                  have q9 : decide ((j : Int) - (f : Int) < 11) = false := decide_eq_false (by have := HJJ.out; omega)
                  clear h11
                  go_wp2_with fail
                  refine (rdigit_calls cb _).mono ?_
                  rintro e w3 ⟨rfl, rfl⟩
                  rw [hdg]
                  -- behind the loop, a bad number
                  go_wp2_with fail
                  -- 'return bad(p, j), 0'
                  refine (rbad_calls s (i : Int) (i : Int) false _).mono ?_
                  rintro e w3 ⟨rfl, hb⟩
                  clear c0 c1 c2 f0 f1 f2 d0 d1 d2 g0 g1 g2
                  -- behind a call: the two blocks of the call's own
                  have k1_ := Aside0.mk ((hb.block _ (blk_lt KB1.out)).trans KB1.out)
                  have k2_ := Aside0.mk ((hb.block _ (blk_lt KB2.out)).trans KB2.out)
                  have n_ := Aside0.mk (below_then HB.out HB.out.size hb)
                  clear KB1 KB2 HB hb
                  have KB1 := k1_
                  have KB2 := k2_
                  have HB := n_
                  clear k1_ k2_ n_
                  obtain ⟨c0, c1, c2, f0, f1, f2⟩ := spot_cells KB1.out
                  obtain ⟨d0, d1, d2, g0, g1, g2⟩ := spot_cells KB2.out
                  unfold spotV
                  go_wp2
                  refine bodyPost_ret (v := .tuple #[.agg #[.string s, .int .i64 (i : Int), .bool true], .int .i64 0]) (by simp [results, Tryd.results70, go_sem, d0, d1, d2]) rfl ⟨congrArg Ending.returned HRV.out.symm, spot_below HB.out (Nat.le_succ w.heap.size) s (i : Int) true⟩
                | false =>
                  clear hc2
                  go_wp2_with fail
                  refine (rdigit_calls cb _).mono ?_
                  rintro e w3 ⟨rfl, rfl⟩
                  rw [hdg]
                  -- behind the loop, a bad number
                  go_wp2_with fail
                  -- 'return bad(p, j), 0'
                  refine (rbad_calls s (i : Int) (i : Int) false _).mono ?_
                  rintro e w3 ⟨rfl, hb⟩
                  clear c0 c1 c2 f0 f1 f2 d0 d1 d2 g0 g1 g2
                  -- behind a call: the two blocks of the call's own
                  have k1_ := Aside0.mk ((hb.block _ (blk_lt KB1.out)).trans KB1.out)
                  have k2_ := Aside0.mk ((hb.block _ (blk_lt KB2.out)).trans KB2.out)
                  have n_ := Aside0.mk (below_then HB.out HB.out.size hb)
                  clear KB1 KB2 HB hb
                  have KB1 := k1_
                  have KB2 := k2_
                  have HB := n_
                  clear k1_ k2_ n_
                  obtain ⟨c0, c1, c2, f0, f1, f2⟩ := spot_cells KB1.out
                  obtain ⟨d0, d1, d2, g0, g1, g2⟩ := spot_cells KB2.out
                  unfold spotV
                  go_wp2
                  refine bodyPost_ret (v := .tuple #[.agg #[.string s, .int .i64 (i : Int), .bool true], .int .i64 0]) (by simp [results, Tryd.results70, go_sem, d0, d1, d2]) rfl ⟨congrArg Ending.returned HRV.out.symm, spot_below HB.out (Nat.le_succ w.heap.size) s (i : Int) true⟩
              · have p3 : decide ((j : Int) < (s.size : Int)) = false := decide_eq_false (by omega)
                have p3' : decide (j < s.size) = false := decide_eq_false (by omega)
                clear hjs
                -- behind the loop, a bad number
                go_wp2_with fail
                -- 'return bad(p, j), 0'
                refine (rbad_calls s (i : Int) (i : Int) false _).mono ?_
                rintro e w3 ⟨rfl, hb⟩
                clear c0 c1 c2 f0 f1 f2 d0 d1 d2 g0 g1 g2
                -- behind a call: the two blocks of the call's own
                have k1_ := Aside0.mk ((hb.block _ (blk_lt KB1.out)).trans KB1.out)
                have k2_ := Aside0.mk ((hb.block _ (blk_lt KB2.out)).trans KB2.out)
                have n_ := Aside0.mk (below_then HB.out HB.out.size hb)
                clear KB1 KB2 HB hb
                have KB1 := k1_
                have KB2 := k2_
                have HB := n_
                clear k1_ k2_ n_
                obtain ⟨c0, c1, c2, f0, f1, f2⟩ := spot_cells KB1.out
                obtain ⟨d0, d1, d2, g0, g1, g2⟩ := spot_cells KB2.out
                unfold spotV
                go_wp2
                refine bodyPost_ret (v := .tuple #[.agg #[.string s, .int .i64 (i : Int), .bool true], .int .i64 0]) (by simp [results, Tryd.results70, go_sem, d0, d1, d2]) rfl ⟨congrArg Ending.returned HRV.out.symm, spot_below HB.out (Nat.le_succ w.heap.size) s (i : Int) true⟩
            have hT0 : 0 < T.length := List.length_pos_iff.mpr hA
            have b1 : ((j : Int) == (f : Int)) = false := by simp; have := HJJ.out; have := HJ.out; omega
            by_cases hB : 10 < T.length
            · have HRV := Aside0.mk (HBAD.out (Or.inr (Or.inl hB)))
              have b2 : decide (10 < (j : Int) - (f : Int)) = true := decide_eq_true (by have := HJJ.out; have := HJ.out; omega)
              clear hA hB hT0
              -- the loop's test says no
              by_cases hjs : j < s.size
              · obtain ⟨cb, hc2⟩ : ∃ c, s[j]'hjs = c := ⟨_, rfl⟩
                have hx2 : ∀ h : j < s.size, s[j]'h = cb := fun _ => hc2
                have p3 : (0 : Int) ≤ (j : Int) := by omega
                have p4 : (j : Int) < (s.size : Int) := by omega
                cases hdg : isD cb with
                | true =>
                  have h11 : J = 11 := digit_stop HT.out HJ.out HJJ.out hjs (by rw [hc2]; exact hdg)
                  clear hc2
                  have q9 : decide ((j : Int) - (f : Int) < 11) = false := decide_eq_false (by have := HJJ.out; omega)
                  clear h11
                  go_wp2_with fail
                  refine (rdigit_calls cb _).mono ?_
                  rintro e w3 ⟨rfl, rfl⟩
                  rw [hdg]
                  -- behind the loop, a bad number
                  go_wp2_with fail
                  -- 'return bad(p, j), 0'
                  refine (rbad_calls s (i : Int) (i : Int) false _).mono ?_
                  rintro e w3 ⟨rfl, hb⟩
                  clear c0 c1 c2 f0 f1 f2 d0 d1 d2 g0 g1 g2
                  -- behind a call: the two blocks of the call's own
                  have k1_ := Aside0.mk ((hb.block _ (blk_lt KB1.out)).trans KB1.out)
                  have k2_ := Aside0.mk ((hb.block _ (blk_lt KB2.out)).trans KB2.out)
                  have n_ := Aside0.mk (below_then HB.out HB.out.size hb)
                  clear KB1 KB2 HB hb
                  have KB1 := k1_
                  have KB2 := k2_
                  have HB := n_
                  clear k1_ k2_ n_
                  obtain ⟨c0, c1, c2, f0, f1, f2⟩ := spot_cells KB1.out
                  obtain ⟨d0, d1, d2, g0, g1, g2⟩ := spot_cells KB2.out
                  unfold spotV
                  go_wp2
                  refine bodyPost_ret (v := .tuple #[.agg #[.string s, .int .i64 (i : Int), .bool true], .int .i64 0]) (by simp [results, Tryd.results70, go_sem, d0, d1, d2]) rfl ⟨congrArg Ending.returned HRV.out.symm, spot_below HB.out (Nat.le_succ w.heap.size) s (i : Int) true⟩
                | false =>
                  clear hc2
                  go_wp2_with fail
                  refine (rdigit_calls cb _).mono ?_
                  rintro e w3 ⟨rfl, rfl⟩
                  rw [hdg]
                  -- behind the loop, a bad number
                  go_wp2_with fail
                  -- 'return bad(p, j), 0'
                  refine (rbad_calls s (i : Int) (i : Int) false _).mono ?_
                  rintro e w3 ⟨rfl, hb⟩
                  clear c0 c1 c2 f0 f1 f2 d0 d1 d2 g0 g1 g2
                  -- behind a call: the two blocks of the call's own
                  have k1_ := Aside0.mk ((hb.block _ (blk_lt KB1.out)).trans KB1.out)
                  have k2_ := Aside0.mk ((hb.block _ (blk_lt KB2.out)).trans KB2.out)
                  have n_ := Aside0.mk (below_then HB.out HB.out.size hb)
                  clear KB1 KB2 HB hb
                  have KB1 := k1_
                  have KB2 := k2_
                  have HB := n_
                  clear k1_ k2_ n_
                  obtain ⟨c0, c1, c2, f0, f1, f2⟩ := spot_cells KB1.out
                  obtain ⟨d0, d1, d2, g0, g1, g2⟩ := spot_cells KB2.out
                  unfold spotV
                  go_wp2
                  refine bodyPost_ret (v := .tuple #[.agg #[.string s, .int .i64 (i : Int), .bool true], .int .i64 0]) (by simp [results, Tryd.results70, go_sem, d0, d1, d2]) rfl ⟨congrArg Ending.returned HRV.out.symm, spot_below HB.out (Nat.le_succ w.heap.size) s (i : Int) true⟩
              · have p3 : decide ((j : Int) < (s.size : Int)) = false := decide_eq_false (by omega)
                have p3' : decide (j < s.size) = false := decide_eq_false (by omega)
                clear hjs
                -- behind the loop, a bad number
                go_wp2_with fail
                -- 'return bad(p, j), 0'
                refine (rbad_calls s (i : Int) (i : Int) false _).mono ?_
                rintro e w3 ⟨rfl, hb⟩
                clear c0 c1 c2 f0 f1 f2 d0 d1 d2 g0 g1 g2
                -- behind a call: the two blocks of the call's own
                have k1_ := Aside0.mk ((hb.block _ (blk_lt KB1.out)).trans KB1.out)
                have k2_ := Aside0.mk ((hb.block _ (blk_lt KB2.out)).trans KB2.out)
                have n_ := Aside0.mk (below_then HB.out HB.out.size hb)
                clear KB1 KB2 HB hb
                have KB1 := k1_
                have KB2 := k2_
                have HB := n_
                clear k1_ k2_ n_
                obtain ⟨c0, c1, c2, f0, f1, f2⟩ := spot_cells KB1.out
                obtain ⟨d0, d1, d2, g0, g1, g2⟩ := spot_cells KB2.out
                unfold spotV
                go_wp2
                refine bodyPost_ret (v := .tuple #[.agg #[.string s, .int .i64 (i : Int), .bool true], .int .i64 0]) (by simp [results, Tryd.results70, go_sem, d0, d1, d2]) rfl ⟨congrArg Ending.returned HRV.out.symm, spot_below HB.out (Nat.le_succ w.heap.size) s (i : Int) true⟩
            have b2 : decide (10 < (j : Int) - (f : Int)) = false := decide_eq_false (by have := HJJ.out; have := HJ.out; omega)
            have hJT : J = T.length := by have := HJ.out; omega
            have hjf : j - f = T.length := by have := HJJ.out; omega
            rw [hjf, List.take_length]
            obtain ⟨hfs, hf0⟩ := digit_first HT.out hT0
            have g1 : (f : Int) < (s.size : Int) := by omega
            have g2 : (0 : Int) ≤ (f : Int) := by omega
            have HJ2 := Aside0.mk hJT
            have hx3 : ∀ h : f < s.size, ∃ c, s[f]'h = c ∧ (dropB s f).head? = some c := fun h => ⟨_, rfl, hf0⟩
            obtain ⟨c3, hc3, hh3⟩ := hx3 hfs
            have hx4 : ∀ h : f < s.size, s[f]'h = c3 := fun _ => hc3
            have e3 : ((c3.toNat : Int) == (48 : Int)) = decide (c3 = 48) := c_eq (n := 48) (by decide)
            clear hc3 hf0 hx3
            by_cases hC : 1 < T.length ∧ c3 = 48
            · have HRV := Aside0.mk (HBAD.out (Or.inr (Or.inr (Or.inl ⟨hC.1, by rw [hh3, hC.2]⟩))))
              have b3 : decide (1 < (j : Int) - (f : Int)) = true := decide_eq_true (by have := HJJ.out; have := HJ.out; have := HJ2.out; omega)
              rw [decide_eq_true hC.2] at e3
              clear hA hB hT0 hJT hjf hC hh3
              -- the loop's test says no
              by_cases hjs : j < s.size
              · obtain ⟨cb, hc2⟩ : ∃ c, s[j]'hjs = c := ⟨_, rfl⟩
                have hx2 : ∀ h : j < s.size, s[j]'h = cb := fun _ => hc2
                have p3 : (0 : Int) ≤ (j : Int) := by omega
                have p4 : (j : Int) < (s.size : Int) := by omega
                cases hdg : isD cb with
                | true =>
                  have h11 : J = 11 := digit_stop HT.out HJ.out HJJ.out hjs (by rw [hc2]; exact hdg)
                  clear hc2
                  have q9 : decide ((j : Int) - (f : Int) < 11) = false := decide_eq_false (by have := HJJ.out; omega)
                  clear h11
                  go_wp2_with fail
                  refine (rdigit_calls cb _).mono ?_
                  rintro e w3 ⟨rfl, rfl⟩
                  rw [hdg]
                  -- behind the loop, a bad number
                  go_wp2_with fail
                  -- 'return bad(p, j), 0'
                  refine (rbad_calls s (i : Int) (i : Int) false _).mono ?_
                  rintro e w3 ⟨rfl, hb⟩
                  clear c0 c1 c2 f0 f1 f2 d0 d1 d2 g0 g1 g2
                  -- behind a call: the two blocks of the call's own
                  have k1_ := Aside0.mk ((hb.block _ (blk_lt KB1.out)).trans KB1.out)
                  have k2_ := Aside0.mk ((hb.block _ (blk_lt KB2.out)).trans KB2.out)
                  have n_ := Aside0.mk (below_then HB.out HB.out.size hb)
                  clear KB1 KB2 HB hb
                  have KB1 := k1_
                  have KB2 := k2_
                  have HB := n_
                  clear k1_ k2_ n_
                  obtain ⟨c0, c1, c2, f0, f1, f2⟩ := spot_cells KB1.out
                  obtain ⟨d0, d1, d2, g0, g1, g2⟩ := spot_cells KB2.out
                  unfold spotV
                  go_wp2
                  refine bodyPost_ret (v := .tuple #[.agg #[.string s, .int .i64 (i : Int), .bool true], .int .i64 0]) (by simp [results, Tryd.results70, go_sem, d0, d1, d2]) rfl ⟨congrArg Ending.returned HRV.out.symm, spot_below HB.out (Nat.le_succ w.heap.size) s (i : Int) true⟩
                | false =>
                  clear hc2
                  go_wp2_with fail
                  refine (rdigit_calls cb _).mono ?_
                  rintro e w3 ⟨rfl, rfl⟩
                  rw [hdg]
                  -- behind the loop, a bad number
                  go_wp2_with fail
                  -- 'return bad(p, j), 0'
                  refine (rbad_calls s (i : Int) (i : Int) false _).mono ?_
                  rintro e w3 ⟨rfl, hb⟩
                  clear c0 c1 c2 f0 f1 f2 d0 d1 d2 g0 g1 g2
                  -- behind a call: the two blocks of the call's own
                  have k1_ := Aside0.mk ((hb.block _ (blk_lt KB1.out)).trans KB1.out)
                  have k2_ := Aside0.mk ((hb.block _ (blk_lt KB2.out)).trans KB2.out)
                  have n_ := Aside0.mk (below_then HB.out HB.out.size hb)
                  clear KB1 KB2 HB hb
                  have KB1 := k1_
                  have KB2 := k2_
                  have HB := n_
                  clear k1_ k2_ n_
                  obtain ⟨c0, c1, c2, f0, f1, f2⟩ := spot_cells KB1.out
                  obtain ⟨d0, d1, d2, g0, g1, g2⟩ := spot_cells KB2.out
                  unfold spotV
                  go_wp2
                  refine bodyPost_ret (v := .tuple #[.agg #[.string s, .int .i64 (i : Int), .bool true], .int .i64 0]) (by simp [results, Tryd.results70, go_sem, d0, d1, d2]) rfl ⟨congrArg Ending.returned HRV.out.symm, spot_below HB.out (Nat.le_succ w.heap.size) s (i : Int) true⟩
              · have p3 : decide ((j : Int) < (s.size : Int)) = false := decide_eq_false (by omega)
                have p3' : decide (j < s.size) = false := decide_eq_false (by omega)
                clear hjs
                -- behind the loop, a bad number
                go_wp2_with fail
                -- 'return bad(p, j), 0'
                refine (rbad_calls s (i : Int) (i : Int) false _).mono ?_
                rintro e w3 ⟨rfl, hb⟩
                clear c0 c1 c2 f0 f1 f2 d0 d1 d2 g0 g1 g2
                -- behind a call: the two blocks of the call's own
                have k1_ := Aside0.mk ((hb.block _ (blk_lt KB1.out)).trans KB1.out)
                have k2_ := Aside0.mk ((hb.block _ (blk_lt KB2.out)).trans KB2.out)
                have n_ := Aside0.mk (below_then HB.out HB.out.size hb)
                clear KB1 KB2 HB hb
                have KB1 := k1_
                have KB2 := k2_
                have HB := n_
                clear k1_ k2_ n_
                obtain ⟨c0, c1, c2, f0, f1, f2⟩ := spot_cells KB1.out
                obtain ⟨d0, d1, d2, g0, g1, g2⟩ := spot_cells KB2.out
                unfold spotV
                go_wp2
                refine bodyPost_ret (v := .tuple #[.agg #[.string s, .int .i64 (i : Int), .bool true], .int .i64 0]) (by simp [results, Tryd.results70, go_sem, d0, d1, d2]) rfl ⟨congrArg Ending.returned HRV.out.symm, spot_below HB.out (Nat.le_succ w.heap.size) s (i : Int) true⟩
            have hz : f + T.length = j := by have := HJJ.out; omega
            by_cases hv0 : valD T = 0
            · have HRV := Aside0.mk (HBAD.out (Or.inr (Or.inr (Or.inr ⟨by decide, hv0⟩))))
              have b5 : (valD T == 0) = true := by simpa using hv0
              clear hv0
              generalize valD T = vT at b5 ⊢
              by_cases h1 : 1 < T.length
              · have b3 : decide (1 < (j : Int) - (f : Int)) = true := decide_eq_true (by have := HJJ.out; have := HJ.out; have := HJ2.out; omega)
                rw [decide_eq_false (fun h => hC ⟨h1, h⟩)] at e3
                clear hA hB hT0 hJT hjf hC hh3 hz h1
                -- the loop's test says no
                by_cases hjs : j < s.size
                · obtain ⟨cb, hc2⟩ : ∃ c, s[j]'hjs = c := ⟨_, rfl⟩
                  have hx2 : ∀ h : j < s.size, s[j]'h = cb := fun _ => hc2
                  have p3 : (0 : Int) ≤ (j : Int) := by omega
                  have p4 : (j : Int) < (s.size : Int) := by omega
                  cases hdg : isD cb with
                  | true =>
                    have h11 : J = 11 := digit_stop HT.out HJ.out HJJ.out hjs (by rw [hc2]; exact hdg)
                    clear hc2
                    have q9 : decide ((j : Int) - (f : Int) < 11) = false := decide_eq_false (by have := HJJ.out; omega)
                    clear h11
                    go_wp2_with fail
                    refine (rdigit_calls cb _).mono ?_
                    rintro e w3 ⟨rfl, rfl⟩
                    rw [hdg]
                    -- behind the loop, a bad number
                    go_wp2_with fail
                    -- 'return bad(p, j), 0'
                    refine (rbad_calls s (i : Int) (i : Int) false _).mono ?_
                    rintro e w3 ⟨rfl, hb⟩
                    clear c0 c1 c2 f0 f1 f2 d0 d1 d2 g0 g1 g2
                    -- behind a call: the two blocks of the call's own
                    have k1_ := Aside0.mk ((hb.block _ (blk_lt KB1.out)).trans KB1.out)
                    have k2_ := Aside0.mk ((hb.block _ (blk_lt KB2.out)).trans KB2.out)
                    have n_ := Aside0.mk (below_then HB.out HB.out.size hb)
                    clear KB1 KB2 HB hb
                    have KB1 := k1_
                    have KB2 := k2_
                    have HB := n_
                    clear k1_ k2_ n_
                    obtain ⟨c0, c1, c2, f0, f1, f2⟩ := spot_cells KB1.out
                    obtain ⟨d0, d1, d2, g0, g1, g2⟩ := spot_cells KB2.out
                    unfold spotV
                    go_wp2
                    refine bodyPost_ret (v := .tuple #[.agg #[.string s, .int .i64 (i : Int), .bool true], .int .i64 0]) (by simp [results, Tryd.results70, go_sem, d0, d1, d2]) rfl ⟨congrArg Ending.returned HRV.out.symm, spot_below HB.out (Nat.le_succ w.heap.size) s (i : Int) true⟩
                  | false =>
                    clear hc2
                    go_wp2_with fail
                    refine (rdigit_calls cb _).mono ?_
                    rintro e w3 ⟨rfl, rfl⟩
                    rw [hdg]
                    -- behind the loop, a bad number
                    go_wp2_with fail
                    -- 'return bad(p, j), 0'
                    refine (rbad_calls s (i : Int) (i : Int) false _).mono ?_
                    rintro e w3 ⟨rfl, hb⟩
                    clear c0 c1 c2 f0 f1 f2 d0 d1 d2 g0 g1 g2
                    -- behind a call: the two blocks of the call's own
                    have k1_ := Aside0.mk ((hb.block _ (blk_lt KB1.out)).trans KB1.out)
                    have k2_ := Aside0.mk ((hb.block _ (blk_lt KB2.out)).trans KB2.out)
                    have n_ := Aside0.mk (below_then HB.out HB.out.size hb)
                    clear KB1 KB2 HB hb
                    have KB1 := k1_
                    have KB2 := k2_
                    have HB := n_
                    clear k1_ k2_ n_
                    obtain ⟨c0, c1, c2, f0, f1, f2⟩ := spot_cells KB1.out
                    obtain ⟨d0, d1, d2, g0, g1, g2⟩ := spot_cells KB2.out
                    unfold spotV
                    go_wp2
                    refine bodyPost_ret (v := .tuple #[.agg #[.string s, .int .i64 (i : Int), .bool true], .int .i64 0]) (by simp [results, Tryd.results70, go_sem, d0, d1, d2]) rfl ⟨congrArg Ending.returned HRV.out.symm, spot_below HB.out (Nat.le_succ w.heap.size) s (i : Int) true⟩
                · have p3 : decide ((j : Int) < (s.size : Int)) = false := decide_eq_false (by omega)
                  have p3' : decide (j < s.size) = false := decide_eq_false (by omega)
                  clear hjs
                  -- behind the loop, a bad number
                  go_wp2_with fail
                  -- 'return bad(p, j), 0'
                  refine (rbad_calls s (i : Int) (i : Int) false _).mono ?_
                  rintro e w3 ⟨rfl, hb⟩
                  clear c0 c1 c2 f0 f1 f2 d0 d1 d2 g0 g1 g2
                  -- behind a call: the two blocks of the call's own
                  have k1_ := Aside0.mk ((hb.block _ (blk_lt KB1.out)).trans KB1.out)
                  have k2_ := Aside0.mk ((hb.block _ (blk_lt KB2.out)).trans KB2.out)
                  have n_ := Aside0.mk (below_then HB.out HB.out.size hb)
                  clear KB1 KB2 HB hb
                  have KB1 := k1_
                  have KB2 := k2_
                  have HB := n_
                  clear k1_ k2_ n_
                  obtain ⟨c0, c1, c2, f0, f1, f2⟩ := spot_cells KB1.out
                  obtain ⟨d0, d1, d2, g0, g1, g2⟩ := spot_cells KB2.out
                  unfold spotV
                  go_wp2
                  refine bodyPost_ret (v := .tuple #[.agg #[.string s, .int .i64 (i : Int), .bool true], .int .i64 0]) (by simp [results, Tryd.results70, go_sem, d0, d1, d2]) rfl ⟨congrArg Ending.returned HRV.out.symm, spot_below HB.out (Nat.le_succ w.heap.size) s (i : Int) true⟩
              · have b3 : decide (1 < (j : Int) - (f : Int)) = false := decide_eq_false (by have := HJJ.out; have := HJ.out; have := HJ2.out; omega)
                clear hA hB hT0 hJT hjf hC hh3 hz h1 e3
                -- the loop's test says no
                by_cases hjs : j < s.size
                · obtain ⟨cb, hc2⟩ : ∃ c, s[j]'hjs = c := ⟨_, rfl⟩
                  have hx2 : ∀ h : j < s.size, s[j]'h = cb := fun _ => hc2
                  have p3 : (0 : Int) ≤ (j : Int) := by omega
                  have p4 : (j : Int) < (s.size : Int) := by omega
                  cases hdg : isD cb with
                  | true =>
                    have h11 : J = 11 := digit_stop HT.out HJ.out HJJ.out hjs (by rw [hc2]; exact hdg)
                    clear hc2
                    have q9 : decide ((j : Int) - (f : Int) < 11) = false := decide_eq_false (by have := HJJ.out; omega)
                    clear h11
                    go_wp2_with fail
                    refine (rdigit_calls cb _).mono ?_
                    rintro e w3 ⟨rfl, rfl⟩
                    rw [hdg]
                    -- behind the loop, a bad number
                    go_wp2_with fail
                    -- 'return bad(p, j), 0'
                    refine (rbad_calls s (i : Int) (i : Int) false _).mono ?_
                    rintro e w3 ⟨rfl, hb⟩
                    clear c0 c1 c2 f0 f1 f2 d0 d1 d2 g0 g1 g2
                    -- behind a call: the two blocks of the call's own
                    have k1_ := Aside0.mk ((hb.block _ (blk_lt KB1.out)).trans KB1.out)
                    have k2_ := Aside0.mk ((hb.block _ (blk_lt KB2.out)).trans KB2.out)
                    have n_ := Aside0.mk (below_then HB.out HB.out.size hb)
                    clear KB1 KB2 HB hb
                    have KB1 := k1_
                    have KB2 := k2_
                    have HB := n_
                    clear k1_ k2_ n_
                    obtain ⟨c0, c1, c2, f0, f1, f2⟩ := spot_cells KB1.out
                    obtain ⟨d0, d1, d2, g0, g1, g2⟩ := spot_cells KB2.out
                    unfold spotV
                    go_wp2
                    refine bodyPost_ret (v := .tuple #[.agg #[.string s, .int .i64 (i : Int), .bool true], .int .i64 0]) (by simp [results, Tryd.results70, go_sem, d0, d1, d2]) rfl ⟨congrArg Ending.returned HRV.out.symm, spot_below HB.out (Nat.le_succ w.heap.size) s (i : Int) true⟩
                  | false =>
                    clear hc2
                    go_wp2_with fail
                    refine (rdigit_calls cb _).mono ?_
                    rintro e w3 ⟨rfl, rfl⟩
                    rw [hdg]
                    -- behind the loop, a bad number
                    go_wp2_with fail
                    -- 'return bad(p, j), 0'
                    refine (rbad_calls s (i : Int) (i : Int) false _).mono ?_
                    rintro e w3 ⟨rfl, hb⟩
                    clear c0 c1 c2 f0 f1 f2 d0 d1 d2 g0 g1 g2
                    -- behind a call: the two blocks of the call's own
                    have k1_ := Aside0.mk ((hb.block _ (blk_lt KB1.out)).trans KB1.out)
                    have k2_ := Aside0.mk ((hb.block _ (blk_lt KB2.out)).trans KB2.out)
                    have n_ := Aside0.mk (below_then HB.out HB.out.size hb)
                    clear KB1 KB2 HB hb
                    have KB1 := k1_
                    have KB2 := k2_
                    have HB := n_
                    clear k1_ k2_ n_
                    obtain ⟨c0, c1, c2, f0, f1, f2⟩ := spot_cells KB1.out
                    obtain ⟨d0, d1, d2, g0, g1, g2⟩ := spot_cells KB2.out
                    unfold spotV
                    go_wp2
                    refine bodyPost_ret (v := .tuple #[.agg #[.string s, .int .i64 (i : Int), .bool true], .int .i64 0]) (by simp [results, Tryd.results70, go_sem, d0, d1, d2]) rfl ⟨congrArg Ending.returned HRV.out.symm, spot_below HB.out (Nat.le_succ w.heap.size) s (i : Int) true⟩
                · have p3 : decide ((j : Int) < (s.size : Int)) = false := decide_eq_false (by omega)
                  have p3' : decide (j < s.size) = false := decide_eq_false (by omega)
                  clear hjs
                  -- behind the loop, a bad number
                  go_wp2_with fail
                  -- 'return bad(p, j), 0'
                  refine (rbad_calls s (i : Int) (i : Int) false _).mono ?_
                  rintro e w3 ⟨rfl, hb⟩
                  clear c0 c1 c2 f0 f1 f2 d0 d1 d2 g0 g1 g2
                  -- behind a call: the two blocks of the call's own
                  have k1_ := Aside0.mk ((hb.block _ (blk_lt KB1.out)).trans KB1.out)
                  have k2_ := Aside0.mk ((hb.block _ (blk_lt KB2.out)).trans KB2.out)
                  have n_ := Aside0.mk (below_then HB.out HB.out.size hb)
                  clear KB1 KB2 HB hb
                  have KB1 := k1_
                  have KB2 := k2_
                  have HB := n_
                  clear k1_ k2_ n_
                  obtain ⟨c0, c1, c2, f0, f1, f2⟩ := spot_cells KB1.out
                  obtain ⟨d0, d1, d2, g0, g1, g2⟩ := spot_cells KB2.out
                  unfold spotV
                  go_wp2
                  refine bodyPost_ret (v := .tuple #[.agg #[.string s, .int .i64 (i : Int), .bool true], .int .i64 0]) (by simp [results, Tryd.results70, go_sem, d0, d1, d2]) rfl ⟨congrArg Ending.returned HRV.out.symm, spot_below HB.out (Nat.le_succ w.heap.size) s (i : Int) true⟩
            · have HRV := Aside0.mk (HGOOD.out hA hB (fun h => hC ⟨h.1, by have := h.2; rw [hh3] at this; injection this⟩) (fun h => hv0 h.2))
              rw [dig_end HT.out hT0, hz, show (-1 : Int) * valD T = -(valD T) by omega] at HRV
              have b5 : (valD T == 0) = false := by simpa using hv0
              have hvb := digit_val HT.out T.length (by omega)
              rw [List.take_length] at hvb
              obtain ⟨v0, v1⟩ := hvb
              clear hv0
              generalize valD T = vT at HRV b5 v0 v1 ⊢
              by_cases h1 : 1 < T.length
              · have b3 : decide (1 < (j : Int) - (f : Int)) = true := decide_eq_true (by have := HJJ.out; have := HJ.out; have := HJ2.out; omega)
                rw [decide_eq_false (fun h => hC ⟨h1, h⟩)] at e3
                clear hA hB hT0 hJT hjf hC hh3 hz h1
                -- the loop's test says no
                by_cases hjs : j < s.size
                · obtain ⟨cb, hc2⟩ : ∃ c, s[j]'hjs = c := ⟨_, rfl⟩
                  have hx2 : ∀ h : j < s.size, s[j]'h = cb := fun _ => hc2
                  have p3 : (0 : Int) ≤ (j : Int) := by omega
                  have p4 : (j : Int) < (s.size : Int) := by omega
                  cases hdg : isD cb with
                  | true =>
                    have h11 : J = 11 := digit_stop HT.out HJ.out HJJ.out hjs (by rw [hc2]; exact hdg)
                    clear hc2
                    have q9 : decide ((j : Int) - (f : Int) < 11) = false := decide_eq_false (by have := HJJ.out; omega)
                    clear h11
                    go_wp2_with fail
                    refine (rdigit_calls cb _).mono ?_
                    rintro e w3 ⟨rfl, rfl⟩
                    rw [hdg]
                    have p8 : (0 : Int) ≤ (j : Int) := by omega
                    go_wp2
                    refine bodyPost_ret (v := .tuple #[.agg #[.string s, .int .i64 ((j : Nat) : Int), .bool false], .int .i64 (-vT)]) (by simp [results, Tryd.results70, go_sem, d0, d1, d2]) rfl ⟨congrArg Ending.returned HRV.out.symm, spot_below (HB.out.setCell (p := ⟨w.heap.size, 1, none⟩) (Nat.le_refl w.heap.size) _) (Nat.le_succ w.heap.size) s ((j : Nat) : Int) false⟩
                  | false =>
                    clear hc2
                    go_wp2_with fail
                    refine (rdigit_calls cb _).mono ?_
                    rintro e w3 ⟨rfl, rfl⟩
                    rw [hdg]
                    have p8 : (0 : Int) ≤ (j : Int) := by omega
                    go_wp2
                    refine bodyPost_ret (v := .tuple #[.agg #[.string s, .int .i64 ((j : Nat) : Int), .bool false], .int .i64 (-vT)]) (by simp [results, Tryd.results70, go_sem, d0, d1, d2]) rfl ⟨congrArg Ending.returned HRV.out.symm, spot_below (HB.out.setCell (p := ⟨w.heap.size, 1, none⟩) (Nat.le_refl w.heap.size) _) (Nat.le_succ w.heap.size) s ((j : Nat) : Int) false⟩
                · have p3 : decide ((j : Int) < (s.size : Int)) = false := decide_eq_false (by omega)
                  have p3' : decide (j < s.size) = false := decide_eq_false (by omega)
                  clear hjs
                  have p8 : (0 : Int) ≤ (j : Int) := by omega
                  go_wp2
                  refine bodyPost_ret (v := .tuple #[.agg #[.string s, .int .i64 ((j : Nat) : Int), .bool false], .int .i64 (-vT)]) (by simp [results, Tryd.results70, go_sem, d0, d1, d2]) rfl ⟨congrArg Ending.returned HRV.out.symm, spot_below (HB.out.setCell (p := ⟨w.heap.size, 1, none⟩) (Nat.le_refl w.heap.size) _) (Nat.le_succ w.heap.size) s ((j : Nat) : Int) false⟩
              · have b3 : decide (1 < (j : Int) - (f : Int)) = false := decide_eq_false (by have := HJJ.out; have := HJ.out; have := HJ2.out; omega)
                clear hA hB hT0 hJT hjf hC hh3 hz h1 e3
                -- the loop's test says no
                by_cases hjs : j < s.size
                · obtain ⟨cb, hc2⟩ : ∃ c, s[j]'hjs = c := ⟨_, rfl⟩
                  have hx2 : ∀ h : j < s.size, s[j]'h = cb := fun _ => hc2
                  have p3 : (0 : Int) ≤ (j : Int) := by omega
                  have p4 : (j : Int) < (s.size : Int) := by omega
                  cases hdg : isD cb with
                  | true =>
                    have h11 : J = 11 := digit_stop HT.out HJ.out HJJ.out hjs (by rw [hc2]; exact hdg)
                    clear hc2
                    have q9 : decide ((j : Int) - (f : Int) < 11) = false := decide_eq_false (by have := HJJ.out; omega)
                    clear h11
                    go_wp2_with fail
                    refine (rdigit_calls cb _).mono ?_
                    rintro e w3 ⟨rfl, rfl⟩
                    rw [hdg]
                    have p8 : (0 : Int) ≤ (j : Int) := by omega
                    go_wp2
                    refine bodyPost_ret (v := .tuple #[.agg #[.string s, .int .i64 ((j : Nat) : Int), .bool false], .int .i64 (-vT)]) (by simp [results, Tryd.results70, go_sem, d0, d1, d2]) rfl ⟨congrArg Ending.returned HRV.out.symm, spot_below (HB.out.setCell (p := ⟨w.heap.size, 1, none⟩) (Nat.le_refl w.heap.size) _) (Nat.le_succ w.heap.size) s ((j : Nat) : Int) false⟩
                  | false =>
                    clear hc2
                    go_wp2_with fail
                    refine (rdigit_calls cb _).mono ?_
                    rintro e w3 ⟨rfl, rfl⟩
                    rw [hdg]
                    have p8 : (0 : Int) ≤ (j : Int) := by omega
                    go_wp2
                    refine bodyPost_ret (v := .tuple #[.agg #[.string s, .int .i64 ((j : Nat) : Int), .bool false], .int .i64 (-vT)]) (by simp [results, Tryd.results70, go_sem, d0, d1, d2]) rfl ⟨congrArg Ending.returned HRV.out.symm, spot_below (HB.out.setCell (p := ⟨w.heap.size, 1, none⟩) (Nat.le_refl w.heap.size) _) (Nat.le_succ w.heap.size) s ((j : Nat) : Int) false⟩
                · have p3 : decide ((j : Int) < (s.size : Int)) = false := decide_eq_false (by omega)
                  have p3' : decide (j < s.size) = false := decide_eq_false (by omega)
                  clear hjs
                  have p8 : (0 : Int) ≤ (j : Int) := by omega
                  go_wp2
                  refine bodyPost_ret (v := .tuple #[.agg #[.string s, .int .i64 ((j : Nat) : Int), .bool false], .int .i64 (-vT)]) (by simp [results, Tryd.results70, go_sem, d0, d1, d2]) rfl ⟨congrArg Ending.returned HRV.out.symm, spot_below (HB.out.setCell (p := ⟨w.heap.size, 1, none⟩) (Nat.le_refl w.heap.size) _) (Nat.le_succ w.heap.size) s ((j : Nat) : Int) false⟩
      · have hn : numL (c :: r) = numD (r.length + 1) 1 (c :: r) := by simp [numL, h45]
        rw [hn, hd]
        have e45 : ((c.toNat : Int) == (45 : Int)) = false := by have := c_eq (c := c) (n := 45) (by decide); rw [decide_eq_false (show ¬ c = UInt8.ofNat 45 from h45)] at this; exact this
        have hfz : i ≤ s.size := by omega
        obtain ⟨T, hT⟩ : ∃ T, T = (dropB s i).takeWhile isD := ⟨_, rfl⟩
        obtain ⟨J, hJ⟩ : ∃ J, J = min T.length 11 := ⟨_, rfl⟩
        have HTL := Aside0.mk (show i + T.length ≤ s.size by have h := (List.takeWhile_prefix (l := dropB s i) isD).length_le; rw [← hT, dropB_len] at h; omega)
        have HBAD := Aside0.mk (numRV_bad (s := s) (frm := r.length + 1) (sg := 1) hT)
        have HGOOD := Aside0.mk (numRV_good (s := s) (frm := r.length + 1) (sg := 1) hT)
        rw [hfr] at HBAD
        have HT := Aside0.mk hT
        have HJ := Aside0.mk hJ
        clear hT hJ hn hd hli h3 hfr h45
        generalize numRV s (numD (r.length + 1) 1 (dropB s i)) = RV at HBAD HGOOD ⊢
        go_enter Tryd.func70, Tryd.ntmps70
        -- the first call, its spot stored into block 1
        go_wp2_with fail
        refine (hbl _).mono ?_
        rintro e w1 ⟨rfl, hb⟩
        -- behind a call: the two blocks of the call's own
        have k1_ := Aside0.mk ((hb.block _ (blk_lt KB1.out)).trans KB1.out)
        have k2_ := Aside0.mk ((hb.block _ (blk_lt KB2.out)).trans KB2.out)
        have n_ := Aside0.mk (below_then HB.out HB.out.size hb)
        clear KB1 KB2 HB hb
        have KB1 := k1_
        have KB2 := k2_
        have HB := n_
        clear k1_ k2_ n_
        obtain ⟨c0, c1, c2, f0, f1, f2⟩ := spot_cells KB1.out
        obtain ⟨d0, d1, d2, g0, g1, g2⟩ := spot_cells KB2.out
        go_upto_region 2 with (fail)
        clear c0 c1 c2 f0 f1 f2 d0 d1 d2 g0 g1 g2
        -- block 1 gets a spot
        have k1_ := Aside0.mk (spot_set KB1.out s (i : Int) false)
        have k2_ := Aside0.mk (spot_far KB2.out (show w.heap.size + 1 ≠ w.heap.size by omega) s (i : Int) false)
        have n_ := Aside0.mk (spot_below HB.out (Nat.le_refl w.heap.size) s (i : Int) false)
        clear KB1 KB2 HB
        have KB1 := k1_
        have KB2 := k2_
        have HB := n_
        clear k1_ k2_ n_
        -- the world behind a store of a spot into block 1 gets a name
        generalize (((w1.setCell ⟨w.heap.size, 0, none⟩ (.string s)).setCell ⟨w.heap.size, 1, none⟩ (.int .i64 (i : Int))).setCell ⟨w.heap.size, 2, none⟩ (.bool false)) = w2 at KB1 KB2 HB ⊢
        obtain ⟨c0, c1, c2, f0, f1, f2⟩ := spot_cells KB1.out
        obtain ⟨d0, d1, d2, g0, g1, g2⟩ := spot_cells KB2.out
        go_wp2_with fail
        clear hx p1 p2 hlt e45
        obtain ⟨f, rfl⟩ : ∃ f, f = i := ⟨i, rfl⟩
        go_wp2_with fail
        go_loopg [6, 7] (s.size + 2) (fun k n t wr => ∃ j : Nat, Aside0 (f ≤ j ∧ j ≤ f + J ∧ (J + f) - j < k) ∧ n = .int .i64 (valD (T.take (j - f))) ∧ t = .int .i64 (j : Int) ∧ wr = w2)
        case atStart => exact ⟨f, ⟨Nat.le_refl _, by omega, by have := HJ.out; have := HTL.out; omega⟩, by rw [Nat.sub_self]; rfl, rfl, rfl⟩
        case round =>
          obtain ⟨j, HM, rfl, rfl, rfl⟩ := hrel
          by_cases hj : j < f + J
          · obtain ⟨hjs, cb, hc2, hdg, hsn⟩ := digit_more HT.out HJ.out HM.out.1 hj
            have hx2 : ∀ h : j < s.size, s[j]'h = cb := fun _ => hc2
            clear hc2
            have p3 : (0 : Int) ≤ (j : Int) := by omega
            have p4 : (j : Int) < (s.size : Int) := by omega
            have p5 : decide ((j : Int) - (f : Int) < 11) = true := decide_eq_true (by have := HJ.out; have := HM.out; omega)
            have p6 : (f : Int) ≤ (j : Int) := by have := HM.out; omega
            have p7 : (f : Int) ≤ 9223372036854775807 := by omega
            have hv := digit_val HT.out (j - f) (by have := HJ.out; have := HM.out; omega)
            have HS := Aside0.mk hsn
            clear hsn
            generalize valD (T.take (j - f)) = v at hv HS ⊢
            obtain ⟨v0, v1⟩ := hv
            have u0 := cb.toNat_lt
            have u1 : (0 : Int) ≤ (cb.toNat : Int) := by omega
            have u2 : (cb.toNat : Int) < 256 := by omega
            go_wp2_with fail
            refine (rdigit_calls cb _).mono ?_
            rintro e w3 ⟨rfl, rfl⟩
            rw [hdg]
            go_wp2_with fail
            go_roundg (gk - 1)
            case measure => have := HM.out; omega
            case rel => exact ⟨j + 1, ⟨by have := HM.out; omega, by omega, by have := HM.out; omega⟩, by rw [HS.out]; congr 1; omega, rfl, rfl⟩
          · have HJJ := Aside0.mk (show j = f + J by have := HM.out; omega)
            have p6 : (f : Int) ≤ (j : Int) := by have := HM.out; omega
            have p10 : (j : Int) ≤ (s.size : Int) := by have := HJJ.out; have := HJ.out; have := HTL.out; omega
            clear hj
            by_cases hA : T = []
            · have b1 : ((j : Int) == (f : Int)) = true := by simp; have := HJJ.out; have := HJ.out; rw [hA] at this; simp at this; omega
              have HRV := Aside0.mk (HBAD.out (Or.inl hA))
              clear hA
              -- the loop's test says no
              by_cases hjs : j < s.size
              · obtain ⟨cb, hc2⟩ : ∃ c, s[j]'hjs = c := ⟨_, rfl⟩
                have hx2 : ∀ h : j < s.size, s[j]'h = cb := fun _ => hc2
                have p3 : (0 : Int) ≤ (j : Int) := by omega
                have p4 : (j : Int) < (s.size : Int) := by omega
                cases hdg : isD cb with
                | true =>
                  have h11 : J = 11 := digit_stop HT.out HJ.out HJJ.out hjs (by rw [hc2]; exact hdg)
                  clear hc2
                  have q9 : decide ((j : Int) - (f : Int) < 11) = false := decide_eq_false (by have := HJJ.out; omega)
                  clear h11
                  go_wp2_with fail
                  refine (rdigit_calls cb _).mono ?_
                  rintro e w3 ⟨rfl, rfl⟩
                  rw [hdg]
                  -- behind the loop, a bad number
                  go_wp2_with fail
                  -- 'return bad(p, j), 0'
                  refine (rbad_calls s (f : Int) (f : Int) false _).mono ?_
                  rintro e w3 ⟨rfl, hb⟩
                  clear c0 c1 c2 f0 f1 f2 d0 d1 d2 g0 g1 g2
                  -- behind a call: the two blocks of the call's own
                  have k1_ := Aside0.mk ((hb.block _ (blk_lt KB1.out)).trans KB1.out)
                  have k2_ := Aside0.mk ((hb.block _ (blk_lt KB2.out)).trans KB2.out)
                  have n_ := Aside0.mk (below_then HB.out HB.out.size hb)
                  clear KB1 KB2 HB hb
                  have KB1 := k1_
                  have KB2 := k2_
                  have HB := n_
                  clear k1_ k2_ n_
                  obtain ⟨c0, c1, c2, f0, f1, f2⟩ := spot_cells KB1.out
                  obtain ⟨d0, d1, d2, g0, g1, g2⟩ := spot_cells KB2.out
                  unfold spotV
                  go_wp2
                  refine bodyPost_ret (v := .tuple #[.agg #[.string s, .int .i64 (f : Int), .bool true], .int .i64 0]) (by simp [results, Tryd.results70, go_sem, d0, d1, d2]) rfl ⟨congrArg Ending.returned HRV.out.symm, spot_below HB.out (Nat.le_succ w.heap.size) s (f : Int) true⟩
                | false =>
                  clear hc2
                  go_wp2_with fail
                  refine (rdigit_calls cb _).mono ?_
                  rintro e w3 ⟨rfl, rfl⟩
                  rw [hdg]
                  -- behind the loop, a bad number
                  go_wp2_with fail
                  -- 'return bad(p, j), 0'
                  refine (rbad_calls s (f : Int) (f : Int) false _).mono ?_
                  rintro e w3 ⟨rfl, hb⟩
                  clear c0 c1 c2 f0 f1 f2 d0 d1 d2 g0 g1 g2
                  -- behind a call: the two blocks of the call's own
                  have k1_ := Aside0.mk ((hb.block _ (blk_lt KB1.out)).trans KB1.out)
                  have k2_ := Aside0.mk ((hb.block _ (blk_lt KB2.out)).trans KB2.out)
                  have n_ := Aside0.mk (below_then HB.out HB.out.size hb)
                  clear KB1 KB2 HB hb
                  have KB1 := k1_
                  have KB2 := k2_
                  have HB := n_
                  clear k1_ k2_ n_
                  obtain ⟨c0, c1, c2, f0, f1, f2⟩ := spot_cells KB1.out
                  obtain ⟨d0, d1, d2, g0, g1, g2⟩ := spot_cells KB2.out
                  unfold spotV
                  go_wp2
                  refine bodyPost_ret (v := .tuple #[.agg #[.string s, .int .i64 (f : Int), .bool true], .int .i64 0]) (by simp [results, Tryd.results70, go_sem, d0, d1, d2]) rfl ⟨congrArg Ending.returned HRV.out.symm, spot_below HB.out (Nat.le_succ w.heap.size) s (f : Int) true⟩
              · have p3 : decide ((j : Int) < (s.size : Int)) = false := decide_eq_false (by omega)
                have p3' : decide (j < s.size) = false := decide_eq_false (by omega)
                clear hjs
                -- behind the loop, a bad number
                go_wp2_with fail
                -- 'return bad(p, j), 0'
                refine (rbad_calls s (f : Int) (f : Int) false _).mono ?_
                rintro e w3 ⟨rfl, hb⟩
                clear c0 c1 c2 f0 f1 f2 d0 d1 d2 g0 g1 g2
                -- behind a call: the two blocks of the call's own
                have k1_ := Aside0.mk ((hb.block _ (blk_lt KB1.out)).trans KB1.out)
                have k2_ := Aside0.mk ((hb.block _ (blk_lt KB2.out)).trans KB2.out)
                have n_ := Aside0.mk (below_then HB.out HB.out.size hb)
                clear KB1 KB2 HB hb
                have KB1 := k1_
                have KB2 := k2_
                have HB := n_
                clear k1_ k2_ n_
                obtain ⟨c0, c1, c2, f0, f1, f2⟩ := spot_cells KB1.out
                obtain ⟨d0, d1, d2, g0, g1, g2⟩ := spot_cells KB2.out
                unfold spotV
                go_wp2
                refine bodyPost_ret (v := .tuple #[.agg #[.string s, .int .i64 (f : Int), .bool true], .int .i64 0]) (by simp [results, Tryd.results70, go_sem, d0, d1, d2]) rfl ⟨congrArg Ending.returned HRV.out.symm, spot_below HB.out (Nat.le_succ w.heap.size) s (f : Int) true⟩
            have hT0 : 0 < T.length := List.length_pos_iff.mpr hA
            have b1 : ((j : Int) == (f : Int)) = false := by simp; have := HJJ.out; have := HJ.out; omega
            by_cases hB : 10 < T.length
            · have HRV := Aside0.mk (HBAD.out (Or.inr (Or.inl hB)))
              have b2 : decide (10 < (j : Int) - (f : Int)) = true := decide_eq_true (by have := HJJ.out; have := HJ.out; omega)
              clear hA hB hT0
              -- the loop's test says no
              by_cases hjs : j < s.size
              · obtain ⟨cb, hc2⟩ : ∃ c, s[j]'hjs = c := ⟨_, rfl⟩
                have hx2 : ∀ h : j < s.size, s[j]'h = cb := fun _ => hc2
                have p3 : (0 : Int) ≤ (j : Int) := by omega
                have p4 : (j : Int) < (s.size : Int) := by omega
                cases hdg : isD cb with
                | true =>
                  have h11 : J = 11 := digit_stop HT.out HJ.out HJJ.out hjs (by rw [hc2]; exact hdg)
                  clear hc2
                  have q9 : decide ((j : Int) - (f : Int) < 11) = false := decide_eq_false (by have := HJJ.out; omega)
                  clear h11
                  go_wp2_with fail
                  refine (rdigit_calls cb _).mono ?_
                  rintro e w3 ⟨rfl, rfl⟩
                  rw [hdg]
                  -- behind the loop, a bad number
                  go_wp2_with fail
                  -- 'return bad(p, j), 0'
                  refine (rbad_calls s (f : Int) (f : Int) false _).mono ?_
                  rintro e w3 ⟨rfl, hb⟩
                  clear c0 c1 c2 f0 f1 f2 d0 d1 d2 g0 g1 g2
                  -- behind a call: the two blocks of the call's own
                  have k1_ := Aside0.mk ((hb.block _ (blk_lt KB1.out)).trans KB1.out)
                  have k2_ := Aside0.mk ((hb.block _ (blk_lt KB2.out)).trans KB2.out)
                  have n_ := Aside0.mk (below_then HB.out HB.out.size hb)
                  clear KB1 KB2 HB hb
                  have KB1 := k1_
                  have KB2 := k2_
                  have HB := n_
                  clear k1_ k2_ n_
                  obtain ⟨c0, c1, c2, f0, f1, f2⟩ := spot_cells KB1.out
                  obtain ⟨d0, d1, d2, g0, g1, g2⟩ := spot_cells KB2.out
                  unfold spotV
                  go_wp2
                  refine bodyPost_ret (v := .tuple #[.agg #[.string s, .int .i64 (f : Int), .bool true], .int .i64 0]) (by simp [results, Tryd.results70, go_sem, d0, d1, d2]) rfl ⟨congrArg Ending.returned HRV.out.symm, spot_below HB.out (Nat.le_succ w.heap.size) s (f : Int) true⟩
                | false =>
                  clear hc2
                  go_wp2_with fail
                  refine (rdigit_calls cb _).mono ?_
                  rintro e w3 ⟨rfl, rfl⟩
                  rw [hdg]
                  -- behind the loop, a bad number
                  go_wp2_with fail
                  -- 'return bad(p, j), 0'
                  refine (rbad_calls s (f : Int) (f : Int) false _).mono ?_
                  rintro e w3 ⟨rfl, hb⟩
                  clear c0 c1 c2 f0 f1 f2 d0 d1 d2 g0 g1 g2
                  -- behind a call: the two blocks of the call's own
                  have k1_ := Aside0.mk ((hb.block _ (blk_lt KB1.out)).trans KB1.out)
                  have k2_ := Aside0.mk ((hb.block _ (blk_lt KB2.out)).trans KB2.out)
                  have n_ := Aside0.mk (below_then HB.out HB.out.size hb)
                  clear KB1 KB2 HB hb
                  have KB1 := k1_
                  have KB2 := k2_
                  have HB := n_
                  clear k1_ k2_ n_
                  obtain ⟨c0, c1, c2, f0, f1, f2⟩ := spot_cells KB1.out
                  obtain ⟨d0, d1, d2, g0, g1, g2⟩ := spot_cells KB2.out
                  unfold spotV
                  go_wp2
                  refine bodyPost_ret (v := .tuple #[.agg #[.string s, .int .i64 (f : Int), .bool true], .int .i64 0]) (by simp [results, Tryd.results70, go_sem, d0, d1, d2]) rfl ⟨congrArg Ending.returned HRV.out.symm, spot_below HB.out (Nat.le_succ w.heap.size) s (f : Int) true⟩
              · have p3 : decide ((j : Int) < (s.size : Int)) = false := decide_eq_false (by omega)
                have p3' : decide (j < s.size) = false := decide_eq_false (by omega)
                clear hjs
                -- behind the loop, a bad number
                go_wp2_with fail
                -- 'return bad(p, j), 0'
                refine (rbad_calls s (f : Int) (f : Int) false _).mono ?_
                rintro e w3 ⟨rfl, hb⟩
                clear c0 c1 c2 f0 f1 f2 d0 d1 d2 g0 g1 g2
                -- behind a call: the two blocks of the call's own
                have k1_ := Aside0.mk ((hb.block _ (blk_lt KB1.out)).trans KB1.out)
                have k2_ := Aside0.mk ((hb.block _ (blk_lt KB2.out)).trans KB2.out)
                have n_ := Aside0.mk (below_then HB.out HB.out.size hb)
                clear KB1 KB2 HB hb
                have KB1 := k1_
                have KB2 := k2_
                have HB := n_
                clear k1_ k2_ n_
                obtain ⟨c0, c1, c2, f0, f1, f2⟩ := spot_cells KB1.out
                obtain ⟨d0, d1, d2, g0, g1, g2⟩ := spot_cells KB2.out
                unfold spotV
                go_wp2
                refine bodyPost_ret (v := .tuple #[.agg #[.string s, .int .i64 (f : Int), .bool true], .int .i64 0]) (by simp [results, Tryd.results70, go_sem, d0, d1, d2]) rfl ⟨congrArg Ending.returned HRV.out.symm, spot_below HB.out (Nat.le_succ w.heap.size) s (f : Int) true⟩
            have b2 : decide (10 < (j : Int) - (f : Int)) = false := decide_eq_false (by have := HJJ.out; have := HJ.out; omega)
            have hJT : J = T.length := by have := HJ.out; omega
            have hjf : j - f = T.length := by have := HJJ.out; omega
            rw [hjf, List.take_length]
            obtain ⟨hfs, hf0⟩ := digit_first HT.out hT0
            have g1 : (f : Int) < (s.size : Int) := by omega
            have g2 : (0 : Int) ≤ (f : Int) := by omega
            have HJ2 := Aside0.mk hJT
            have hx3 : ∀ h : f < s.size, ∃ c, s[f]'h = c ∧ (dropB s f).head? = some c := fun h => ⟨_, rfl, hf0⟩
            obtain ⟨c3, hc3, hh3⟩ := hx3 hfs
            have hx4 : ∀ h : f < s.size, s[f]'h = c3 := fun _ => hc3
            have e3 : ((c3.toNat : Int) == (48 : Int)) = decide (c3 = 48) := c_eq (n := 48) (by decide)
            clear hc3 hf0 hx3
            by_cases hC : 1 < T.length ∧ c3 = 48
            · have HRV := Aside0.mk (HBAD.out (Or.inr (Or.inr (Or.inl ⟨hC.1, by rw [hh3, hC.2]⟩))))
              have b3 : decide (1 < (j : Int) - (f : Int)) = true := decide_eq_true (by have := HJJ.out; have := HJ.out; have := HJ2.out; omega)
              rw [decide_eq_true hC.2] at e3
              clear hA hB hT0 hJT hjf hC hh3
              -- the loop's test says no
              by_cases hjs : j < s.size
              · obtain ⟨cb, hc2⟩ : ∃ c, s[j]'hjs = c := ⟨_, rfl⟩
                have hx2 : ∀ h : j < s.size, s[j]'h = cb := fun _ => hc2
                have p3 : (0 : Int) ≤ (j : Int) := by omega
                have p4 : (j : Int) < (s.size : Int) := by omega
                cases hdg : isD cb with
                | true =>
                  have h11 : J = 11 := digit_stop HT.out HJ.out HJJ.out hjs (by rw [hc2]; exact hdg)
                  clear hc2
                  have q9 : decide ((j : Int) - (f : Int) < 11) = false := decide_eq_false (by have := HJJ.out; omega)
                  clear h11
                  go_wp2_with fail
                  refine (rdigit_calls cb _).mono ?_
                  rintro e w3 ⟨rfl, rfl⟩
                  rw [hdg]
                  -- behind the loop, a bad number
                  go_wp2_with fail
                  -- 'return bad(p, j), 0'
                  refine (rbad_calls s (f : Int) (f : Int) false _).mono ?_
                  rintro e w3 ⟨rfl, hb⟩
                  clear c0 c1 c2 f0 f1 f2 d0 d1 d2 g0 g1 g2
                  -- behind a call: the two blocks of the call's own
                  have k1_ := Aside0.mk ((hb.block _ (blk_lt KB1.out)).trans KB1.out)
                  have k2_ := Aside0.mk ((hb.block _ (blk_lt KB2.out)).trans KB2.out)
                  have n_ := Aside0.mk (below_then HB.out HB.out.size hb)
                  clear KB1 KB2 HB hb
                  have KB1 := k1_
                  have KB2 := k2_
                  have HB := n_
                  clear k1_ k2_ n_
                  obtain ⟨c0, c1, c2, f0, f1, f2⟩ := spot_cells KB1.out
                  obtain ⟨d0, d1, d2, g0, g1, g2⟩ := spot_cells KB2.out
                  unfold spotV
                  go_wp2
                  refine bodyPost_ret (v := .tuple #[.agg #[.string s, .int .i64 (f : Int), .bool true], .int .i64 0]) (by simp [results, Tryd.results70, go_sem, d0, d1, d2]) rfl ⟨congrArg Ending.returned HRV.out.symm, spot_below HB.out (Nat.le_succ w.heap.size) s (f : Int) true⟩
                | false =>
                  clear hc2
                  go_wp2_with fail
                  refine (rdigit_calls cb _).mono ?_
                  rintro e w3 ⟨rfl, rfl⟩
                  rw [hdg]
                  -- behind the loop, a bad number
                  go_wp2_with fail
                  -- 'return bad(p, j), 0'
                  refine (rbad_calls s (f : Int) (f : Int) false _).mono ?_
                  rintro e w3 ⟨rfl, hb⟩
                  clear c0 c1 c2 f0 f1 f2 d0 d1 d2 g0 g1 g2
                  -- behind a call: the two blocks of the call's own
                  have k1_ := Aside0.mk ((hb.block _ (blk_lt KB1.out)).trans KB1.out)
                  have k2_ := Aside0.mk ((hb.block _ (blk_lt KB2.out)).trans KB2.out)
                  have n_ := Aside0.mk (below_then HB.out HB.out.size hb)
                  clear KB1 KB2 HB hb
                  have KB1 := k1_
                  have KB2 := k2_
                  have HB := n_
                  clear k1_ k2_ n_
                  obtain ⟨c0, c1, c2, f0, f1, f2⟩ := spot_cells KB1.out
                  obtain ⟨d0, d1, d2, g0, g1, g2⟩ := spot_cells KB2.out
                  unfold spotV
                  go_wp2
                  refine bodyPost_ret (v := .tuple #[.agg #[.string s, .int .i64 (f : Int), .bool true], .int .i64 0]) (by simp [results, Tryd.results70, go_sem, d0, d1, d2]) rfl ⟨congrArg Ending.returned HRV.out.symm, spot_below HB.out (Nat.le_succ w.heap.size) s (f : Int) true⟩
              · have p3 : decide ((j : Int) < (s.size : Int)) = false := decide_eq_false (by omega)
                have p3' : decide (j < s.size) = false := decide_eq_false (by omega)
                clear hjs
                -- behind the loop, a bad number
                go_wp2_with fail
                -- 'return bad(p, j), 0'
                refine (rbad_calls s (f : Int) (f : Int) false _).mono ?_
                rintro e w3 ⟨rfl, hb⟩
                clear c0 c1 c2 f0 f1 f2 d0 d1 d2 g0 g1 g2
                -- behind a call: the two blocks of the call's own
                have k1_ := Aside0.mk ((hb.block _ (blk_lt KB1.out)).trans KB1.out)
                have k2_ := Aside0.mk ((hb.block _ (blk_lt KB2.out)).trans KB2.out)
                have n_ := Aside0.mk (below_then HB.out HB.out.size hb)
                clear KB1 KB2 HB hb
                have KB1 := k1_
                have KB2 := k2_
                have HB := n_
                clear k1_ k2_ n_
                obtain ⟨c0, c1, c2, f0, f1, f2⟩ := spot_cells KB1.out
                obtain ⟨d0, d1, d2, g0, g1, g2⟩ := spot_cells KB2.out
                unfold spotV
                go_wp2
                refine bodyPost_ret (v := .tuple #[.agg #[.string s, .int .i64 (f : Int), .bool true], .int .i64 0]) (by simp [results, Tryd.results70, go_sem, d0, d1, d2]) rfl ⟨congrArg Ending.returned HRV.out.symm, spot_below HB.out (Nat.le_succ w.heap.size) s (f : Int) true⟩
            have hz : f + T.length = j := by have := HJJ.out; omega
            have HRV := Aside0.mk (HGOOD.out hA hB (fun h => hC ⟨h.1, by have := h.2; rw [hh3] at this; injection this⟩) (by omega))
            rw [dig_end HT.out hT0, hz, Int.one_mul] at HRV
            by_cases h1 : 1 < T.length
            · have b3 : decide (1 < (j : Int) - (f : Int)) = true := decide_eq_true (by have := HJJ.out; have := HJ.out; have := HJ2.out; omega)
              rw [decide_eq_false (fun h => hC ⟨h1, h⟩)] at e3
              clear hA hB hT0 hJT hjf hC hh3 hz h1
              -- the loop's test says no
              by_cases hjs : j < s.size
              · obtain ⟨cb, hc2⟩ : ∃ c, s[j]'hjs = c := ⟨_, rfl⟩
                have hx2 : ∀ h : j < s.size, s[j]'h = cb := fun _ => hc2
                have p3 : (0 : Int) ≤ (j : Int) := by omega
                have p4 : (j : Int) < (s.size : Int) := by omega
                cases hdg : isD cb with
                | true =>
                  have h11 : J = 11 := digit_stop HT.out HJ.out HJJ.out hjs (by rw [hc2]; exact hdg)
                  clear hc2
                  have q9 : decide ((j : Int) - (f : Int) < 11) = false := decide_eq_false (by have := HJJ.out; omega)
                  clear h11
                  go_wp2_with fail
                  refine (rdigit_calls cb _).mono ?_
                  rintro e w3 ⟨rfl, rfl⟩
                  rw [hdg]
                  have p8 : (0 : Int) ≤ (j : Int) := by omega
                  go_wp2
                  refine bodyPost_ret (v := .tuple #[.agg #[.string s, .int .i64 ((j : Nat) : Int), .bool false], .int .i64 (valD T)]) (by simp [results, Tryd.results70, go_sem, d0, d1, d2]) rfl ⟨congrArg Ending.returned HRV.out.symm, spot_below (HB.out.setCell (p := ⟨w.heap.size, 1, none⟩) (Nat.le_refl w.heap.size) _) (Nat.le_succ w.heap.size) s ((j : Nat) : Int) false⟩
                | false =>
                  clear hc2
                  go_wp2_with fail
                  refine (rdigit_calls cb _).mono ?_
                  rintro e w3 ⟨rfl, rfl⟩
                  rw [hdg]
                  have p8 : (0 : Int) ≤ (j : Int) := by omega
                  go_wp2
                  refine bodyPost_ret (v := .tuple #[.agg #[.string s, .int .i64 ((j : Nat) : Int), .bool false], .int .i64 (valD T)]) (by simp [results, Tryd.results70, go_sem, d0, d1, d2]) rfl ⟨congrArg Ending.returned HRV.out.symm, spot_below (HB.out.setCell (p := ⟨w.heap.size, 1, none⟩) (Nat.le_refl w.heap.size) _) (Nat.le_succ w.heap.size) s ((j : Nat) : Int) false⟩
              · have p3 : decide ((j : Int) < (s.size : Int)) = false := decide_eq_false (by omega)
                have p3' : decide (j < s.size) = false := decide_eq_false (by omega)
                clear hjs
                have p8 : (0 : Int) ≤ (j : Int) := by omega
                go_wp2
                refine bodyPost_ret (v := .tuple #[.agg #[.string s, .int .i64 ((j : Nat) : Int), .bool false], .int .i64 (valD T)]) (by simp [results, Tryd.results70, go_sem, d0, d1, d2]) rfl ⟨congrArg Ending.returned HRV.out.symm, spot_below (HB.out.setCell (p := ⟨w.heap.size, 1, none⟩) (Nat.le_refl w.heap.size) _) (Nat.le_succ w.heap.size) s ((j : Nat) : Int) false⟩
            · have b3 : decide (1 < (j : Int) - (f : Int)) = false := decide_eq_false (by have := HJJ.out; have := HJ.out; have := HJ2.out; omega)
              clear hA hB hT0 hJT hjf hC hh3 hz h1 e3
              -- the loop's test says no
              by_cases hjs : j < s.size
              · obtain ⟨cb, hc2⟩ : ∃ c, s[j]'hjs = c := ⟨_, rfl⟩
                have hx2 : ∀ h : j < s.size, s[j]'h = cb := fun _ => hc2
                have p3 : (0 : Int) ≤ (j : Int) := by omega
                have p4 : (j : Int) < (s.size : Int) := by omega
                cases hdg : isD cb with
                | true =>
                  have h11 : J = 11 := digit_stop HT.out HJ.out HJJ.out hjs (by rw [hc2]; exact hdg)
                  clear hc2
                  have q9 : decide ((j : Int) - (f : Int) < 11) = false := decide_eq_false (by have := HJJ.out; omega)
                  clear h11
                  go_wp2_with fail
                  refine (rdigit_calls cb _).mono ?_
                  rintro e w3 ⟨rfl, rfl⟩
                  rw [hdg]
                  have p8 : (0 : Int) ≤ (j : Int) := by omega
                  go_wp2
                  refine bodyPost_ret (v := .tuple #[.agg #[.string s, .int .i64 ((j : Nat) : Int), .bool false], .int .i64 (valD T)]) (by simp [results, Tryd.results70, go_sem, d0, d1, d2]) rfl ⟨congrArg Ending.returned HRV.out.symm, spot_below (HB.out.setCell (p := ⟨w.heap.size, 1, none⟩) (Nat.le_refl w.heap.size) _) (Nat.le_succ w.heap.size) s ((j : Nat) : Int) false⟩
                | false =>
                  clear hc2
                  go_wp2_with fail
                  refine (rdigit_calls cb _).mono ?_
                  rintro e w3 ⟨rfl, rfl⟩
                  rw [hdg]
                  have p8 : (0 : Int) ≤ (j : Int) := by omega
                  go_wp2
                  refine bodyPost_ret (v := .tuple #[.agg #[.string s, .int .i64 ((j : Nat) : Int), .bool false], .int .i64 (valD T)]) (by simp [results, Tryd.results70, go_sem, d0, d1, d2]) rfl ⟨congrArg Ending.returned HRV.out.symm, spot_below (HB.out.setCell (p := ⟨w.heap.size, 1, none⟩) (Nat.le_refl w.heap.size) _) (Nat.le_succ w.heap.size) s ((j : Nat) : Int) false⟩
              · have p3 : decide ((j : Int) < (s.size : Int)) = false := decide_eq_false (by omega)
                have p3' : decide (j < s.size) = false := decide_eq_false (by omega)
                clear hjs
                have p8 : (0 : Int) ≤ (j : Int) := by omega
                go_wp2
                refine bodyPost_ret (v := .tuple #[.agg #[.string s, .int .i64 ((j : Nat) : Int), .bool false], .int .i64 (valD T)]) (by simp [results, Tryd.results70, go_sem, d0, d1, d2]) rfl ⟨congrArg Ending.returned HRV.out.symm, spot_below (HB.out.setCell (p := ⟨w.heap.size, 1, none⟩) (Nat.le_refl w.heap.size) _) (Nat.le_succ w.heap.size) s ((j : Nat) : Int) false⟩
end Go.Proofs.YthaapijjjgkacaaDoor.Mine
end
section
/-
  filter.quote by hand: a text between quotes.
-/
namespace Go.Proofs.YthaapijjjgkacaaDoor.Mine
open Go.RowKit Go.Proofs.YthaapijjjgkacaaDoorW.PrintWords Go.Proofs.YthaapijjjgkacaaDoorW.PrintLast Go.Proofs.YthaapijjjgkacaaDoorW.PrintMore
open Go.Proofs.YthaapijjjgkacaaDoor.PFilterReads
def quoteL (l : List UInt8) : List UInt8 := l.flatMap fun c => if c = 34 ∨ c = 92 then [92, c] else [c]
theorem quoteL_len (l : List UInt8) : (quoteL l).length ≤ 2 * l.length := by
  induction l with
  | nil => simp [quoteL]
  | cons c r ih =>
    have : quoteL (c :: r) = (if c = 34 ∨ c = 92 then [92, c] else [c]) ++ quoteL r := rfl
    rw [this, List.length_append, List.length_cons]
    by_cases h : c = 34 ∨ c = 92
    · rw [if_pos h]; simp only [List.length_cons, List.length_nil]; omega
    · rw [if_neg h]; simp only [List.length_cons, List.length_nil]; omega
theorem quoteL_snoc (l : List UInt8) (c : UInt8) : quoteL (l ++ [c]) = quoteL l ++ (if c = 34 ∨ c = 92 then [92, c] else [c]) := by
  unfold quoteL
  rw [List.flatMap_append]
  simp only [List.flatMap_cons, List.flatMap_nil, List.append_nil]
set_option maxHeartbeats 4000000 in
set_option maxRecDepth 100000 in
theorem quote_calls (s : ByteArray) (w : World) (hs : s.size ≤ 1000000000) : Calls Tryd.prog 43 #[.string s] w fun e w' => e = .returned (.string ⟨(34 :: quoteL s.data.toList ++ [34]).toArray⟩) ∧ Below w.heap.size w w' := by
  have hcv := fun W : World => Lib.run_convert_string_bytes (P := Tryd.prog) W 9 24 5 s Tryd.underlying9 Tryd.underlying24 Tryd.underlying5
  go_enter Tryd.func43, Tryd.ntmps43
  go_wp2_with fail
  have hR0 : Kd.R (Kd.int .u8) 5 (w.alloc (.cells #[.int .u8 34] 5)) w.heap.size (fun k => k ≠ w.heap.size + 1) (.slice (some ⟨w.heap.size, 0, none⟩) 1 1) (numsB [34]) :=
    ⟨fun k hk => by have : w.heap.size = k := by simpa [Value.ownBlock] using hk
                    omega, [.int .u8 34], World.ownsRow_lit w #[.int .u8 34] 1 (Nat.le_refl _) (by decide) rfl, Reps.one rfl (Reps.none _ _)⟩
  have hsz : (w.alloc (.cells #[.int .u8 34] 5)).heap.size = w.heap.size + 1 := by show (w.heap.push _).size = _; exact Array.size_push _
  have HO := Aside0.mk (Kd.R_below hR0 (bytes_below (Below.refl _ _) (Nat.le_refl _) 5 s))
  have HB := Aside0.mk (bytes_below (below_alloc (Below.refl w.heap.size w) (.cells #[.int .u8 34] 5)) (by rw [hsz]; omega) 5 s)
  have HC : Aside0 (∀ j, j < s.size → (Lib.bytesWorld (w.alloc (Obj.cells #[Value.int IntKind.u8 34] 5)) 5 s).cell? ⟨w.heap.size + 1, j, none⟩ = some (.int .u8 (s.data.toList.getD j 0).toNat)) := ⟨fun j hj => by
    have := Lib.bytesWorld_cell (w.alloc (Obj.cells #[Value.int IntKind.u8 34] 5)) 5 s j hj
    rwa [hsz] at this⟩
  have HL : Aside0 (w.heap.size + 1 < (Lib.bytesWorld (w.alloc (Obj.cells #[Value.int IntKind.u8 34] 5)) 5 s).heap.size) := ⟨by rw [Lib.bytesWorld_size, hsz]; omega⟩
  generalize grownCap (w.alloc (Obj.cells #[Value.int IntKind.u8 34] 5)) s.size 0 5 = cp
  generalize Value.slice (some { block := w.heap.size, off := 0 }) 1 1 = v0 at HO ⊢
  generalize Lib.bytesWorld (w.alloc (Obj.cells #[Value.int IntKind.u8 34] 5)) 5 s = w1 at HO HB HC HL ⊢
  generalize hgB : w.heap.size + 1 = gB at HO HC HL ⊢
  clear hR0 hsz hgB
  go_loopg [3, 5, 10] (s.size + 1) (fun k v3 v5 v10 W => ∃ (i : Nat) (acc : List UInt8), Aside0 (i ≤ s.size ∧ k + i = s.size + 1 ∧ acc = 34 :: quoteL (s.data.toList.take i) ∧ acc.length ≤ 1 + 2 * i) ∧ v10 = .int .i64 i ∧ Aside0 (Kd.R (Kd.int .u8) 5 W w.heap.size (fun k => k ≠ gB) v3 (numsB acc)) ∧ Aside0 (Below w.heap.size w W) ∧ Aside0 (∀ j, j < s.size → W.cell? ⟨gB, j, none⟩ = some (.int .u8 (s.data.toList.getD j 0).toNat)) ∧ Aside0 (gB < W.heap.size))
  case atStart => exact ⟨0, [34], ⟨by omega, by omega, by simp [quoteL], by simp⟩, rfl, HO, HB, HC, HL⟩
  case round =>
    clear HO HB HC HL
    obtain ⟨i, acc, HN, rfl, HO, HB, HC, HL⟩ := hrel
    by_cases hi : i < s.size
    · have b1 : decide ((i : Int) < (s.size : Int)) = true := decide_eq_true (by omega)
      have hc := HC.out i hi
      have hd : s.data.toList.getD i 0 = s[i]'hi := by
        rw [List.getD_eq_getElem?_getD, List.getElem?_eq_getElem (by simpa using hi)]
        rfl
      rw [hd] at hc
      have htk : quoteL (s.data.toList.take (i + 1)) = quoteL (s.data.toList.take i) ++ (if s[i]'hi = 34 ∨ s[i]'hi = 92 then [92, s[i]'hi] else [s[i]'hi]) := by
        rw [List.take_succ_eq_append_getElem (by simpa using hi), quoteL_snoc]
        rfl
      have HT := Aside0.mk htk
      clear htk hd
      generalize s[i]'hi = c at hc HT
      have p1 : (0 : Int) ≤ (i : Int) := by omega
      have p2 : (i : Int) < (s.size : Int) := by omega
      have e1 : ((c.toNat : Int) == (34 : Int)) = decide (c = 34) := c_eq (n := 34) (by decide)
      have e2 : ((c.toNat : Int) == (92 : Int)) = decide (c = 92) := c_eq (n := 92) (by decide)
      by_cases h34 : c = 34
      · subst h34
        rw [decide_eq_true rfl] at e1
        go_wp2_with (first | ((with_reducible refine gate_builtin (b := .append) (xs := #[.tmp 20, .tmp 21]) rfl ?_); at_builtin; go_loud (refine Kd.R_append (Kd.int .u8) (w0 := w) w.heap.size rfl (.tmp 20) (.tmp 21) 24 5 (.int .u8 0) 1 rfl Tryd.underlying24 info5 rfl (by decide) (by omega) _ (numsB _) (((92 : UInt8)).toNat : Int) [.int .u8 92] (fun k => k ≠ gB) (fun _ => False) rfl ?aX ?aP (fun _ hk => hk.elim) ?aF HO.out HB.out HB.out.size ?aL ?_; (case aX => first | rfl | (go_simp; done) | (go_simp; rfl)); (case aP => exact rfl); (case aF => exact (fun k hk => by have := HL.out; omega)); (case aL => have := HN.out; simp [numsB]; omega); intro v9 w9 ho hb hg hat; rw [← numsB_snoc] at ho; have n0_ := Aside0.mk ho; have n1_ := Aside0.mk hb; have n2_ := Aside0.mk (fun j hj => (cell_grown hg (HC.out j hj) (fun e => HO.out.1 _ e.symm rfl))); have n3_ := Aside0.mk (Nat.lt_of_lt_of_le HL.out hg.size); clear HO HB HC HL ho hb hg hat; have HO := n0_; have HB := n1_; have HC := n2_; have HL := n3_; clear n0_ n1_ n2_ n3_)) | ((with_reducible refine gate_builtin (b := .append) (xs := #[.tmp 23, .tmp 25]) rfl ?_); at_builtin; go_loud (refine Kd.R_append (Kd.int .u8) (w0 := w) w.heap.size rfl (.tmp 23) (.tmp 25) 24 5 (.int .u8 0) 1 rfl Tryd.underlying24 info5 rfl (by decide) (by omega) _ (numsB _) (((34 : UInt8)).toNat : Int) [.int .u8 34] (fun k => k ≠ gB) (fun _ => False) rfl ?aX ?aP (fun _ hk => hk.elim) ?aF HO.out HB.out HB.out.size ?aL ?_; (case aX => first | rfl | (go_simp; done) | (go_simp; rfl)); (case aP => exact rfl); (case aF => exact (fun k hk => by have := HL.out; omega)); (case aL => have := HN.out; simp [numsB]; omega); intro v9 w9 ho hb hg hat; rw [← numsB_snoc] at ho; have n0_ := Aside0.mk ho; have n1_ := Aside0.mk hb; have n2_ := Aside0.mk (fun j hj => (cell_grown hg (HC.out j hj) (fun e => HO.out.1 _ e.symm rfl))); have n3_ := Aside0.mk (Nat.lt_of_lt_of_le HL.out hg.size); clear HO HB HC HL ho hb hg hat; have HO := n0_; have HB := n1_; have HC := n2_; have HL := n3_; clear n0_ n1_ n2_ n3_)))
        go_roundg (gk - 1)
        case measure => have := HN.out; omega
        case rel => exact ⟨i + 1, acc ++ [92] ++ [34], ⟨by have := HN.out; omega, by have := HN.out; omega, by rw [HT.out, HN.out.2.2.1]; simp [*], by have := HN.out; simp only [List.length_append, List.length_cons, List.length_nil]; omega⟩, rfl, HO, HB, HC, HL⟩
      · by_cases h92 : c = 92
        · subst h92
          rw [decide_eq_false h34] at e1
          rw [decide_eq_true rfl] at e2
          go_wp2_with (first | ((with_reducible refine gate_builtin (b := .append) (xs := #[.tmp 20, .tmp 21]) rfl ?_); at_builtin; go_loud (refine Kd.R_append (Kd.int .u8) (w0 := w) w.heap.size rfl (.tmp 20) (.tmp 21) 24 5 (.int .u8 0) 1 rfl Tryd.underlying24 info5 rfl (by decide) (by omega) _ (numsB _) (((92 : UInt8)).toNat : Int) [.int .u8 92] (fun k => k ≠ gB) (fun _ => False) rfl ?aX ?aP (fun _ hk => hk.elim) ?aF HO.out HB.out HB.out.size ?aL ?_; (case aX => first | rfl | (go_simp; done) | (go_simp; rfl)); (case aP => exact rfl); (case aF => exact (fun k hk => by have := HL.out; omega)); (case aL => have := HN.out; simp [numsB]; omega); intro v9 w9 ho hb hg hat; rw [← numsB_snoc] at ho; have n0_ := Aside0.mk ho; have n1_ := Aside0.mk hb; have n2_ := Aside0.mk (fun j hj => (cell_grown hg (HC.out j hj) (fun e => HO.out.1 _ e.symm rfl))); have n3_ := Aside0.mk (Nat.lt_of_lt_of_le HL.out hg.size); clear HO HB HC HL ho hb hg hat; have HO := n0_; have HB := n1_; have HC := n2_; have HL := n3_; clear n0_ n1_ n2_ n3_)) | ((with_reducible refine gate_builtin (b := .append) (xs := #[.tmp 23, .tmp 25]) rfl ?_); at_builtin; go_loud (refine Kd.R_append (Kd.int .u8) (w0 := w) w.heap.size rfl (.tmp 23) (.tmp 25) 24 5 (.int .u8 0) 1 rfl Tryd.underlying24 info5 rfl (by decide) (by omega) _ (numsB _) (((92 : UInt8)).toNat : Int) [.int .u8 92] (fun k => k ≠ gB) (fun _ => False) rfl ?aX ?aP (fun _ hk => hk.elim) ?aF HO.out HB.out HB.out.size ?aL ?_; (case aX => first | rfl | (go_simp; done) | (go_simp; rfl)); (case aP => exact rfl); (case aF => exact (fun k hk => by have := HL.out; omega)); (case aL => have := HN.out; simp [numsB]; omega); intro v9 w9 ho hb hg hat; rw [← numsB_snoc] at ho; have n0_ := Aside0.mk ho; have n1_ := Aside0.mk hb; have n2_ := Aside0.mk (fun j hj => (cell_grown hg (HC.out j hj) (fun e => HO.out.1 _ e.symm rfl))); have n3_ := Aside0.mk (Nat.lt_of_lt_of_le HL.out hg.size); clear HO HB HC HL ho hb hg hat; have HO := n0_; have HB := n1_; have HC := n2_; have HL := n3_; clear n0_ n1_ n2_ n3_)))
          go_roundg (gk - 1)
          case measure => have := HN.out; omega
          case rel => exact ⟨i + 1, acc ++ [92] ++ [92], ⟨by have := HN.out; omega, by have := HN.out; omega, by rw [HT.out, HN.out.2.2.1]; simp [*], by have := HN.out; simp only [List.length_append, List.length_cons, List.length_nil]; omega⟩, rfl, HO, HB, HC, HL⟩
        · rw [decide_eq_false h34] at e1
          rw [decide_eq_false h92] at e2
          go_wp2_with (first | ((with_reducible refine gate_builtin (b := .append) (xs := #[.tmp 23, .tmp 25]) rfl ?_); at_builtin; go_loud (refine Kd.R_append (Kd.int .u8) (w0 := w) w.heap.size rfl (.tmp 23) (.tmp 25) 24 5 (.int .u8 0) 1 rfl Tryd.underlying24 info5 rfl (by decide) (by omega) _ (numsB _) ((c).toNat : Int) [.int .u8 (c.toNat : Int)] (fun k => k ≠ gB) (fun _ => False) rfl ?aX ?aP (fun _ hk => hk.elim) ?aF HO.out HB.out HB.out.size ?aL ?_; (case aX => first | rfl | (go_simp; done) | (go_simp; rfl)); (case aP => exact rfl); (case aF => exact (fun k hk => by have := HL.out; omega)); (case aL => have := HN.out; simp [numsB]; omega); intro v9 w9 ho hb hg hat; rw [← numsB_snoc] at ho; have n0_ := Aside0.mk ho; have n1_ := Aside0.mk hb; have n2_ := Aside0.mk (fun j hj => (cell_grown hg (HC.out j hj) (fun e => HO.out.1 _ e.symm rfl))); have n3_ := Aside0.mk (Nat.lt_of_lt_of_le HL.out hg.size); clear HO HB HC HL ho hb hg hat; have HO := n0_; have HB := n1_; have HC := n2_; have HL := n3_; clear n0_ n1_ n2_ n3_)))
          go_roundg (gk - 1)
          case measure => have := HN.out; omega
          case rel => exact ⟨i + 1, acc ++ [c], ⟨by have := HN.out; omega, by have := HN.out; omega, by rw [HT.out, HN.out.2.2.1]; simp [*], by have := HN.out; simp only [List.length_append, List.length_cons, List.length_nil]; omega⟩, rfl, HO, HB, HC, HL⟩
    · have b1 : decide ((i : Int) < (s.size : Int)) = false := decide_eq_false (by omega)
      have hi2 : i = s.size := by have := HN.out; omega
      go_wp2_with (((with_reducible refine gate_builtin (b := .append) (xs := #[.tmp 28, .tmp 29]) rfl ?_); at_builtin; go_loud (refine Kd.R_append (Kd.int .u8) (w0 := w) w.heap.size rfl (.tmp 28) (.tmp 29) 24 5 (.int .u8 0) 1 rfl Tryd.underlying24 info5 rfl (by decide) (by omega) _ (numsB _) (((34 : UInt8)).toNat : Int) [.int .u8 34] (fun k => k ≠ gB) (fun _ => False) rfl ?aX ?aP (fun _ hk => hk.elim) ?aF HO.out HB.out HB.out.size ?aL ?_; (case aX => first | rfl | (go_simp; done) | (go_simp; rfl)); (case aP => exact rfl); (case aF => exact (fun k hk => by have := HL.out; omega)); (case aL => have := HN.out; simp [numsB]; omega); intro v9 w9 ho hb hg hat; rw [← numsB_snoc] at ho; have n0_ := Aside0.mk ho; have n1_ := Aside0.mk hb; have n2_ := Aside0.mk (fun j hj => (cell_grown hg (HC.out j hj) (fun e => HO.out.1 _ e.symm rfl))); have n3_ := Aside0.mk (Nat.lt_of_lt_of_le HL.out hg.size); clear HO HB HC HL ho hb hg hat; have HO := n0_; have HB := n1_; have HC := n2_; have HL := n3_; clear n0_ n1_ n2_ n3_)); have hs2 := own_string (P := Tryd.prog) Tryd.underlying24 Tryd.underlying5 Tryd.underlying9 (Kd.own_of_R HO.out); rw [str_numsB] at hs2)
      go_ret
      refine ⟨?_, HB.out⟩
      have ha : acc = 34 :: quoteL s.data.toList := by rw [HN.out.2.2.1, hi2, List.take_of_length_le (by simp)]
      rw [ha]
      rfl
end Go.Proofs.YthaapijjjgkacaaDoor.Mine
end
section
/-
  The reference's parser of filters, walked: str. Conditions: the text at most 1000 bytes.
-/
namespace Go.Proofs.YthaapijjjgkacaaDoor.Mine
open Go.RowKit Go.Proofs.YthaapijjjgkacaaDoorW.PrintWords Go.Proofs.YthaapijjjgkacaaDoorW.PrintLast Go.Proofs.YthaapijjjgkacaaDoorW.PrintMore
open Go.Proofs.YthaapijjjgkacaaDoor.PFilterReads
theorem spot_set1 {w : World} {g : Nat} {s : ByteArray} {i0 : Int} {b : Bool} (h : w.heap[g]? = some (spotC s i0 b)) (i : Int) : (w.setCell ⟨g, 1, none⟩ (.int .i64 i)).heap[g]? = some (spotC s i b) := by
  have := blk_set h 1 (.int .i64 i)
  simpa [spotC] using this
theorem spot_far1 {w : World} {g g2 : Nat} {o : Obj} (h : w.heap[g]? = some o) (hne : g ≠ g2) (i : Int) : (w.setCell ⟨g2, 1, none⟩ (.int .i64 i)).heap[g]? = some o := by
  rw [Below.heap_setCell _ _ _ _ hne]
  exact h
theorem R_spot {α : Type} {d : Kd α} {e : Nat} {W : World} {base B : Nat} {v : Value} {xs : List α} (h : d.R e W base (fun k => B + 2 ≤ k) v xs) (s : ByteArray) (i : Int) (b : Bool) :
    d.R e (((W.setCell ⟨B + 1, 0, none⟩ (.string s)).setCell ⟨B + 1, 1, none⟩ (.int .i64 i)).setCell ⟨B + 1, 2, none⟩ (.bool b)) base (fun k => B + 2 ≤ k) v xs :=
  Kd.R_far (Kd.R_far (Kd.R_far h (fun k hk => by show k ≠ B + 1; omega) _) (fun k hk => by show k ≠ B + 1; omega) _) (fun k hk => by show k ≠ B + 1; omega) _
def strRV (s : ByteArray) (x : List UInt8 × St) : Value := .tuple #[stV s x.2, .string ⟨x.1.toArray⟩]
theorem strRV_none {s : ByteArray} {j : Nat} (h : j ≤ s.size) : strRV s (textR (none, dropB s j)) = .tuple #[.agg #[.string s, .int .i64 (j : Int), .bool true], .string ⟨#[]⟩] := by
  show Value.tuple #[stV s ⟨dropB s j, some (dropB s j).length⟩, .string ⟨#[]⟩] = _
  rw [stV_bad, dropB_len, Nat.sub_sub_self h]
theorem strRV_some {s : ByteArray} {j : Nat} (h : j ≤ s.size) (acc : List UInt8) : strRV s (textR (some acc, dropB s j)) = .tuple #[.agg #[.string s, .int .i64 (j : Int), .bool false], .string ⟨acc.toArray⟩] := by
  show Value.tuple #[stV s ⟨dropB s j, none⟩, .string ⟨acc.toArray⟩] = _
  rw [stV_good, dropB_len, Nat.sub_sub_self h]
set_option maxHeartbeats 4000000 in
set_option maxRecDepth 100000 in
theorem rstr_calls (s : ByteArray) (st : St) (w : World) (hs : s.size ≤ 1000) (hok : st.ok (bytes s)) :
    Calls Tryd.prog 67 #[stV s st] w fun e w' => e = .returned (strRV s (textS st)) ∧ Below w.heap.size w w' := by
  have hmk := fun w => rmark_calls s ⟨#[34]⟩ st w hs (by decide) hok
  have hok1 := markS_ok (m := [34]) hok
  have e34 : bytes (⟨#[34]⟩ : ByteArray) = [34] := rfl
  rw [e34] at hmk
  clear e34
  obtain ⟨i0, hi0⟩ : ∃ x, x = spI s st := ⟨_, rfl⟩
  obtain ⟨b0, hb0⟩ : ∃ x, x = st.bad.isSome := ⟨_, rfl⟩
  have hst : stV s st = .agg #[.string s, .int .i64 i0, .bool b0] := by rw [hi0, hb0]; rfl
  rw [hst] at hmk ⊢
  clear hi0 hb0
  -- the two blocks of the call's own, at its beginning
  obtain ⟨hn1, hn2⟩ := spot_new w s ⟨#[]⟩ i0 0 b0 false
  have KB1 := Aside0.mk hn1
  have KB2 := Aside0.mk hn2
  have HB := Aside0.mk (below_alloc (below_alloc (Below.refl w.heap.size w) (.cells #[.string s, .int .i64 i0, .bool b0] 83)) (.cells #[.string ⟨#[]⟩, .int .i64 0, .bool false] 83))
  clear hn1 hn2
  cases hmb : (markS [34] st).bad with
  | some n =>
    have HRV : Aside0 (strRV s (textS st) = .tuple #[.agg #[.string s, .int .i64 ((s.size - n : Nat) : Int), .bool true], .string ⟨#[]⟩]) := ⟨by
      unfold textS
      rw [hmb]
      simp only [strRV]
      rw [stV_of_bad hmb]⟩
    rw [stV_of_bad hmb] at hmk
    generalize strRV s (textS st) = RV at HRV ⊢
    generalize ((s.size - n : Nat) : Int) = i at hmk HRV
    clear hmb hok1 hok hst
    go_enter Tryd.func67, Tryd.ntmps67
    -- the first call, its spot stored into block 1
    go_wp2_with fail
    refine (hmk _).mono ?_
    rintro e w1 ⟨rfl, hb⟩
    -- behind a call: the two blocks of the call's own
    have k1_ := Aside0.mk ((hb.block _ (blk_lt KB1.out)).trans KB1.out)
    have k2_ := Aside0.mk ((hb.block _ (blk_lt KB2.out)).trans KB2.out)
    have n_ := Aside0.mk (below_then HB.out HB.out.size hb)
    clear KB1 KB2 HB hb
    have KB1 := k1_
    have KB2 := k2_
    have HB := n_
    clear k1_ k2_ n_
    obtain ⟨c0, c1, c2, f0, f1, f2⟩ := spot_cells KB1.out
    obtain ⟨d0, d1, d2, g0, g1, g2⟩ := spot_cells KB2.out
    go_upto_region 2 with (fail)
    clear c0 c1 c2 f0 f1 f2 d0 d1 d2 g0 g1 g2
    -- block 1 gets a spot
    have k1_ := Aside0.mk (spot_set KB1.out s i true)
    have k2_ := Aside0.mk (spot_far KB2.out (show w.heap.size + 1 ≠ w.heap.size by omega) s i true)
    have n_ := Aside0.mk (spot_below HB.out (Nat.le_refl w.heap.size) s i true)
    clear KB1 KB2 HB
    have KB1 := k1_
    have KB2 := k2_
    have HB := n_
    clear k1_ k2_ n_
    -- the world behind a store of a spot into block 1 gets a name
    generalize (((w1.setCell ⟨w.heap.size, 0, none⟩ (.string s)).setCell ⟨w.heap.size, 1, none⟩ (.int .i64 i)).setCell ⟨w.heap.size, 2, none⟩ (.bool true)) = w2 at KB1 KB2 HB ⊢
    obtain ⟨c0, c1, c2, f0, f1, f2⟩ := spot_cells KB1.out
    obtain ⟨d0, d1, d2, g0, g1, g2⟩ := spot_cells KB2.out
    go_wp2_with fail
    have n_ := Aside0.mk (below_alloc HB.out (.cells #[] 5))
    have k1_ := Aside0.mk ((Below.heap_alloc w2 (.cells #[] 5) _ (blk_lt KB1.out)).trans KB1.out)
    have k2_ := Aside0.mk ((Below.heap_alloc w2 (.cells #[] 5) _ (blk_lt KB2.out)).trans KB2.out)
    clear c0 c1 c2 f0 f1 f2 d0 d1 d2 g0 g1 g2
    clear HB KB1 KB2
    have HB := n_
    have KB1 := k1_
    have KB2 := k2_
    clear n_ k1_ k2_
    generalize Value.slice (some { block := w2.heap.size, off := 0 }) 0 0 = v0
    generalize w2.alloc (Obj.cells #[] 5) = w3 at HB KB1 KB2 ⊢
    go_loopg [4, 5] 1 (fun k v4 v5 wr => wr = w3)
    case atStart => rfl
    case round =>
      subst hrel
      obtain ⟨c0, c1, c2, f0, f1, f2⟩ := spot_cells KB1.out
      obtain ⟨d0, d1, d2, g0, g1, g2⟩ := spot_cells KB2.out
      go_wp2
      refine bodyPost_ret (v := .tuple #[.agg #[.string s, .int .i64 i, .bool true], .string ⟨#[]⟩]) (by simp [results, Tryd.results67, go_sem, d0, d1, d2]) rfl ⟨congrArg Ending.returned HRV.out.symm, spot_below HB.out (Nat.le_succ w.heap.size) s i true⟩
  | none =>
    have hts : textS st = textR (textL (markS [34] st).l []) := by unfold textS; rw [hmb]
    have hsuf : (markS [34] st).l <:+ bytes s := hok1.1
    have hmkv : stV s (markS [34] st) = .agg #[.string s, .int .i64 ((s.size - (markS [34] st).l.length : Nat) : Int), .bool false] := by unfold stV spI spotV; rw [hmb]; rfl
    rw [hmkv] at hmk
    rw [hts]
    generalize (markS [34] st).l = L at hmk hsuf ⊢
    have hle : L.length ≤ s.size := by have := hsuf.length_le; rwa [bytes_len] at this
    have hd := suf_drop hsuf
    obtain ⟨i1, hi1⟩ : ∃ x, s.size - L.length = x := ⟨_, rfl⟩
    rw [hi1] at hmk hd
    have hiz : i1 ≤ s.size := by omega
    rw [hd]
    obtain ⟨RV, hRV⟩ : ∃ x, x = strRV s (textR (textL (dropB s i1) [])) := ⟨_, rfl⟩
    rw [← hRV]
    have HRV0 := Aside0.mk hRV
    clear hRV hts hmkv hmb hok1 hok hst hsuf hle hd hi1
    go_enter Tryd.func67, Tryd.ntmps67
    -- the first call, its spot stored into block 1
    go_wp2_with fail
    refine (hmk _).mono ?_
    rintro e w1 ⟨rfl, hb⟩
    -- behind a call: the two blocks of the call's own
    have k1_ := Aside0.mk ((hb.block _ (blk_lt KB1.out)).trans KB1.out)
    have k2_ := Aside0.mk ((hb.block _ (blk_lt KB2.out)).trans KB2.out)
    have n_ := Aside0.mk (below_then HB.out HB.out.size hb)
    clear KB1 KB2 HB hb
    have KB1 := k1_
    have KB2 := k2_
    have HB := n_
    clear k1_ k2_ n_
    obtain ⟨c0, c1, c2, f0, f1, f2⟩ := spot_cells KB1.out
    obtain ⟨d0, d1, d2, g0, g1, g2⟩ := spot_cells KB2.out
    go_upto_region 2 with (fail)
    clear c0 c1 c2 f0 f1 f2 d0 d1 d2 g0 g1 g2
    -- block 1 gets a spot
    have k1_ := Aside0.mk (spot_set KB1.out s (i1 : Int) false)
    have k2_ := Aside0.mk (spot_far KB2.out (show w.heap.size + 1 ≠ w.heap.size by omega) s (i1 : Int) false)
    have n_ := Aside0.mk (spot_below HB.out (Nat.le_refl w.heap.size) s (i1 : Int) false)
    clear KB1 KB2 HB
    have KB1 := k1_
    have KB2 := k2_
    have HB := n_
    clear k1_ k2_ n_
    -- the world behind a store of a spot into block 1 gets a name
    generalize (((w1.setCell ⟨w.heap.size, 0, none⟩ (.string s)).setCell ⟨w.heap.size, 1, none⟩ (.int .i64 (i1 : Int))).setCell ⟨w.heap.size, 2, none⟩ (.bool false)) = w2 at KB1 KB2 HB ⊢
    obtain ⟨c0, c1, c2, f0, f1, f2⟩ := spot_cells KB1.out
    obtain ⟨d0, d1, d2, g0, g1, g2⟩ := spot_cells KB2.out
    go_wp2_with fail
    have n_ := Aside0.mk (below_alloc HB.out (.cells #[] 5))
    have k1_ := Aside0.mk ((Below.heap_alloc w2 (.cells #[] 5) _ (blk_lt KB1.out)).trans KB1.out)
    have k2_ := Aside0.mk ((Below.heap_alloc w2 (.cells #[] 5) _ (blk_lt KB2.out)).trans KB2.out)
    have hl2 : w.heap.size + 2 ≤ w2.heap.size := by have := blk_lt KB2.out; omega
    have HO : Aside0 (Kd.R (Kd.int .u8) 5 (w2.alloc (.cells #[] 5)) w.heap.size (fun k => w.heap.size + 2 ≤ k) (.slice (some ⟨w2.heap.size, 0, none⟩) 0 0) (numsB [])) :=
      ⟨fun k hk => by have : w2.heap.size = k := by simpa [Value.ownBlock] using hk
                      omega, [], World.ownsRow_lit w2 #[] 0 (by omega) (by decide) rfl, Reps.none _ _⟩
    have HL : Aside0 (w.heap.size + 2 ≤ (w2.alloc (.cells #[] 5)).heap.size) := ⟨by show _ ≤ (w2.heap.push _).size; rw [Array.size_push]; omega⟩
    clear c0 c1 c2 f0 f1 f2 d0 d1 d2 g0 g1 g2
    clear HB KB1 KB2 hl2
    have HB := n_
    have KB1 := k1_
    have KB2 := k2_
    clear n_ k1_ k2_
    generalize Value.slice (some { block := w2.heap.size, off := 0 }) 0 0 = v0 at HO ⊢
    generalize w2.alloc (Obj.cells #[] 5) = w3 at HB KB1 KB2 HO HL ⊢
    go_loopg [4, 5] (s.size + 1) (fun k v4 v5 W => ∃ (acc : List UInt8) (i : Nat), Aside0 (i ≤ s.size ∧ s.size - i < k ∧ acc.length ≤ i ∧ textL (dropB s i) acc = textL (dropB s i1) []) ∧ Aside0 (Kd.R (Kd.int .u8) 5 W w.heap.size (fun k => w.heap.size + 2 ≤ k) v4 (numsB acc)) ∧ Aside0 (W.heap[w.heap.size]? = some (spotC s (i : Int) false)) ∧ Aside0 (W.heap[w.heap.size + 1]? = some (spotC ⟨#[]⟩ 0 false)) ∧ Aside0 (Below w.heap.size w W) ∧ Aside0 (w.heap.size + 2 ≤ W.heap.size))
    case atStart => exact ⟨[], i1, ⟨hiz, by omega, by simp, rfl⟩, HO, KB1, KB2, HB, HL⟩
    case round =>
      clear HO KB1 KB2 HB HL
      obtain ⟨acc, i, HN, HO, KB1, KB2, HB, HL⟩ := hrel
      have hlei : i ≤ s.size := HN.out.1
      obtain ⟨c0, c1, c2, f0, f1, f2⟩ := spot_cells KB1.out
      obtain ⟨d0, d1, d2, g0, g1, g2⟩ := spot_cells KB2.out
      by_cases hlt : i < s.size
      · obtain ⟨c, hc⟩ : ∃ c, s[i]'hlt = c := ⟨_, rfl⟩
        have hx : ∀ h : i < s.size, s[i]'h = c := fun _ => hc
        have hd := dropB_cons hlt
        rw [hc] at hd
        have HD := Aside0.mk hd
        clear hc hd
        have q1 := eq_true (show ((i : Int) < (s.size : Int)) by omega)
        have q2 := eq_true (show (0 : Int) ≤ (i : Int) by omega)
        have q3 := decide_eq_false (show ¬ ((s.size : Int) ≤ (i : Int)) by omega)
        have q4 := decide_eq_false (show ¬ (s.size ≤ i) by omega)
        by_cases h34 : c = 34
        · have e34 : ((c.toNat : Int) == 34) = true := by rw [h34]; rfl
          have HRV := Aside0.mk (HRV0.out.trans ((congrArg (fun x => strRV s (textR x)) (show textL (dropB s i1) [] = (some acc, dropB s (i + 1)) by rw [← HN.out.2.2.2, HD.out, textL_q _ _ h34])).trans (strRV_some (by omega) acc)))
          rw [show ((i + 1 : Nat) : Int) = (i : Int) + 1 by omega] at HRV
          clear h34
          go_upto_region 9 with (fail)
          clear c0 c1 c2 f0 f1 f2 d0 d1 d2 g0 g1 g2
          -- the place of the spot in block 1 has been set: facts, and a name for the world
          have k1_ := Aside0.mk (spot_set1 KB1.out ((i : Int) + 1))
          have k2_ := Aside0.mk (spot_far1 KB2.out (show w.heap.size + 1 ≠ w.heap.size by omega) ((i : Int) + 1))
          have n_ := Aside0.mk (HB.out.setCell (p := ⟨w.heap.size, 1, none⟩) (Nat.le_refl w.heap.size) (.int .i64 ((i : Int) + 1)))
          have n2_ := Aside0.mk (Kd.R_far (p := ⟨w.heap.size, 1, none⟩) HO.out (fun k hk => by show k ≠ w.heap.size; omega) (.int .i64 ((i : Int) + 1)))
          have n3_ := Aside0.mk (show w.heap.size + 2 ≤ (wr.setCell ⟨w.heap.size, 1, none⟩ (.int .i64 ((i : Int) + 1))).heap.size by have := HL.out; simpa [World.setCell] using this)
          clear KB1 KB2 HB HO HL
          have KB1 := k1_
          have KB2 := k2_
          have HB := n_
          have HO := n2_
          have HL := n3_
          clear k1_ k2_ n_ n2_ n3_
          generalize wr.setCell ⟨w.heap.size, 1, none⟩ (.int .i64 ((i : Int) + 1)) = w5 at KB1 KB2 HB HO HL ⊢
          obtain ⟨c0, c1, c2, f0, f1, f2⟩ := spot_cells KB1.out
          obtain ⟨d0, d1, d2, g0, g1, g2⟩ := spot_cells KB2.out
          have hcv := fun m => own_string (P := Tryd.prog) Tryd.underlying24 Tryd.underlying5 Tryd.underlying9 (Kd.own_of_R (Kd.R_drewN HO.out m))
          have hcv1 := own_string (P := Tryd.prog) Tryd.underlying24 Tryd.underlying5 Tryd.underlying9 (Kd.own_of_R (Kd.R_drew HO.out))
          have hcv2 := own_string (P := Tryd.prog) Tryd.underlying24 Tryd.underlying5 Tryd.underlying9 (Kd.own_of_R (Kd.R_drew (R_spot HO.out s ((i : Int) + 1) false)))
          go_region
          rw [str_numsB]
          go_wp2
          refine bodyPost_ret (v := .tuple #[.agg #[.string s, .int .i64 ((i : Int) + 1), .bool false], .string ⟨acc.toArray⟩]) (by simp [results, Tryd.results67, go_sem, d0, d1, d2]) rfl ⟨congrArg Ending.returned HRV.out.symm, below_drew1 (spot_below HB.out (Nat.le_succ w.heap.size) s ((i : Int) + 1) false)⟩
        · have e34 : ((c.toNat : Int) == 34) = false := by rw [show (34 : Int) = ((34 : Nat) : Int) from rfl, c_eq (by decide)]; simpa using h34
          by_cases h92 : c = 92
          · have e92 : ((c.toNat : Int) == 92) = true := by rw [h92]; rfl
            have HC := Aside0.mk (show c = 92 from h92)
            clear h34 h92
            go_upto_region 12 with (fail)
            clear c0 c1 c2 f0 f1 f2 d0 d1 d2 g0 g1 g2
            -- the place of the spot in block 1 has been set: facts, and a name for the world
            have k1_ := Aside0.mk (spot_set1 KB1.out ((i : Int) + 1))
            have k2_ := Aside0.mk (spot_far1 KB2.out (show w.heap.size + 1 ≠ w.heap.size by omega) ((i : Int) + 1))
            have n_ := Aside0.mk (HB.out.setCell (p := ⟨w.heap.size, 1, none⟩) (Nat.le_refl w.heap.size) (.int .i64 ((i : Int) + 1)))
            have n2_ := Aside0.mk (Kd.R_far (p := ⟨w.heap.size, 1, none⟩) HO.out (fun k hk => by show k ≠ w.heap.size; omega) (.int .i64 ((i : Int) + 1)))
            have n3_ := Aside0.mk (show w.heap.size + 2 ≤ (wr.setCell ⟨w.heap.size, 1, none⟩ (.int .i64 ((i : Int) + 1))).heap.size by have := HL.out; simpa [World.setCell] using this)
            clear KB1 KB2 HB HO HL
            have KB1 := k1_
            have KB2 := k2_
            have HB := n_
            have HO := n2_
            have HL := n3_
            clear k1_ k2_ n_ n2_ n3_
            generalize wr.setCell ⟨w.heap.size, 1, none⟩ (.int .i64 ((i : Int) + 1)) = w5 at KB1 KB2 HB HO HL ⊢
            have ei : (i : Int) + 1 = ((i + 1 : Nat) : Int) := by omega
            rw [ei] at KB1 ⊢
            clear ei
            obtain ⟨c0, c1, c2, f0, f1, f2⟩ := spot_cells KB1.out
            obtain ⟨d0, d1, d2, g0, g1, g2⟩ := spot_cells KB2.out
            clear q1 q2 q3 q4
            by_cases hlt1 : i + 1 < s.size
            · obtain ⟨d, hd1⟩ : ∃ d, s[i + 1]'hlt1 = d := ⟨_, rfl⟩
              have hx1 : ∀ h : i + 1 < s.size, s[i + 1]'h = d := fun _ => hd1
              have hd2 := dropB_cons hlt1
              rw [hd1] at hd2
              have HD1 := Aside0.mk hd2
              clear hd1 hd2 hx hlt
              obtain ⟨j, hj⟩ : ∃ j, j = i + 1 := ⟨_, rfl⟩
              have HJ := Aside0.mk hj
              rw [← hj] at hlt1 hx1 HD1 KB1 c1 ⊢
              have q1 := eq_true (show ((j : Int) < (s.size : Int)) by omega)
              have q2 := eq_true (show (0 : Int) ≤ (j : Int) by omega)
              have q3 := decide_eq_false (show ¬ ((s.size : Int) ≤ (j : Int)) by omega)
              have q4 := decide_eq_false (show ¬ (s.size ≤ j) by omega)
              by_cases hdq : d = 34 ∨ d = 92
              · have HE := Aside0.mk (show textL (dropB s i) acc = textL (dropB s (j + 1)) (acc ++ [d]) by rw [HD.out, ← HJ.out, HD1.out, textL_b1 _ _ HC.out hdq])
                have g1 := decide_eq_false (show ¬ (d.toNat : Int) < 32 by rcases hdq with rfl | rfl <;> decide)
                have g2 := decide_eq_false (show ¬ 126 < (d.toNat : Int) by rcases hdq with rfl | rfl <;> decide)
                have hjs : j = i + 1 := HJ.out
                have HJ2 := Aside0.mk hjs
                clear hjs hj
                by_cases d34 : d = 34
                · have f34 : ((d.toNat : Int) != 34) = false := by rw [d34]; rfl
                  clear d34 hdq
                  go_wp2_with ((with_reducible refine gate_builtin (b := .append) (xs := #[.tmp 83, .tmp 85]) rfl ?_); at_builtin; go_loud (refine Kd.R_append (Kd.int .u8) (w0 := w) w.heap.size rfl (.tmp 83) (.tmp 85) 24 5 (.int .u8 0) 1 rfl Tryd.underlying24 info5 rfl (by decide) (by omega) _ (numsB _) ((d).toNat : Int) [.int .u8 ((d).toNat : Int)] (fun k => w.heap.size + 2 ≤ k) (fun _ => False) rfl ?aX ?aP (fun _ hk => hk.elim) ?aF HO.out HB.out HB.out.size ?aL ?_; (case aX => first | rfl | (go_simp; done) | (go_simp; rfl)); (case aP => exact rfl); (case aF => exact (fun k hk => by have := HL.out; omega)); (case aL => have := HN.out; simp [numsB]; omega); intro v9 w9 ho hb hg hat; rw [← numsB_snoc] at ho; have n0_ := Aside0.mk ho; have n1_ := Aside0.mk hb; have n2_ := Aside0.mk ((hg.block _ (blk_lt KB1.out) (fun e => absurd (HO.out.1 _ e.symm) (by omega))).trans KB1.out); have n3_ := Aside0.mk ((hg.block _ (blk_lt KB2.out) (fun e => absurd (HO.out.1 _ e.symm) (by omega))).trans KB2.out); have n4_ := Aside0.mk (Nat.le_trans HL.out hg.size); clear HO HB KB1 KB2 HL ho hb hg hat c0 c1 c2 f0 f1 f2 d0 d1 d2 g0 g1 g2; have HO := n0_; have HB := n1_; have KB1 := n2_; have KB2 := n3_; have HL := n4_; clear n0_ n1_ n2_ n3_ n4_; obtain ⟨c0, c1, c2, f0, f1, f2⟩ := spot_cells KB1.out; obtain ⟨d0, d1, d2, g0, g1, g2⟩ := spot_cells KB2.out))
                  go_roundg (gk - 1)
                  case measure => have := HN.out; have := HJ2.out; omega
                  case rel => exact ⟨acc ++ [d], j + 1, ⟨by omega, by have := HN.out; have := HJ2.out; omega, by have := HN.out; have := HJ2.out; simp; omega, by rw [← HN.out.2.2.2, HE.out]⟩, ⟨Kd.R_far (p := ⟨w.heap.size, 1, none⟩) HO.out (fun k hk => by show k ≠ w.heap.size; omega) _⟩, ⟨spot_set1 KB1.out _⟩, ⟨spot_far1 KB2.out (by omega) _⟩, ⟨HB.out.setCell (p := ⟨w.heap.size, 1, none⟩) (Nat.le_refl w.heap.size) _⟩, ⟨by have := HL.out; simpa [World.setCell] using this⟩⟩
                · have f34 : ((d.toNat : Int) != 34) = true := by rw [bne, show (34 : Int) = ((34 : Nat) : Int) from rfl, c_eq (by decide)]; simpa using d34
                  have f92 : ((d.toNat : Int) != 92) = false := by rcases hdq with h | h; exact absurd h d34; rw [h]; rfl
                  clear d34 hdq
                  go_wp2_with ((with_reducible refine gate_builtin (b := .append) (xs := #[.tmp 83, .tmp 85]) rfl ?_); at_builtin; go_loud (refine Kd.R_append (Kd.int .u8) (w0 := w) w.heap.size rfl (.tmp 83) (.tmp 85) 24 5 (.int .u8 0) 1 rfl Tryd.underlying24 info5 rfl (by decide) (by omega) _ (numsB _) ((d).toNat : Int) [.int .u8 ((d).toNat : Int)] (fun k => w.heap.size + 2 ≤ k) (fun _ => False) rfl ?aX ?aP (fun _ hk => hk.elim) ?aF HO.out HB.out HB.out.size ?aL ?_; (case aX => first | rfl | (go_simp; done) | (go_simp; rfl)); (case aP => exact rfl); (case aF => exact (fun k hk => by have := HL.out; omega)); (case aL => have := HN.out; simp [numsB]; omega); intro v9 w9 ho hb hg hat; rw [← numsB_snoc] at ho; have n0_ := Aside0.mk ho; have n1_ := Aside0.mk hb; have n2_ := Aside0.mk ((hg.block _ (blk_lt KB1.out) (fun e => absurd (HO.out.1 _ e.symm) (by omega))).trans KB1.out); have n3_ := Aside0.mk ((hg.block _ (blk_lt KB2.out) (fun e => absurd (HO.out.1 _ e.symm) (by omega))).trans KB2.out); have n4_ := Aside0.mk (Nat.le_trans HL.out hg.size); clear HO HB KB1 KB2 HL ho hb hg hat c0 c1 c2 f0 f1 f2 d0 d1 d2 g0 g1 g2; have HO := n0_; have HB := n1_; have KB1 := n2_; have KB2 := n3_; have HL := n4_; clear n0_ n1_ n2_ n3_ n4_; obtain ⟨c0, c1, c2, f0, f1, f2⟩ := spot_cells KB1.out; obtain ⟨d0, d1, d2, g0, g1, g2⟩ := spot_cells KB2.out))
                  go_roundg (gk - 1)
                  case measure => have := HN.out; have := HJ2.out; omega
                  case rel => exact ⟨acc ++ [d], j + 1, ⟨by omega, by have := HN.out; have := HJ2.out; omega, by have := HN.out; have := HJ2.out; simp; omega, by rw [← HN.out.2.2.2, HE.out]⟩, ⟨Kd.R_far (p := ⟨w.heap.size, 1, none⟩) HO.out (fun k hk => by show k ≠ w.heap.size; omega) _⟩, ⟨spot_set1 KB1.out _⟩, ⟨spot_far1 KB2.out (by omega) _⟩, ⟨HB.out.setCell (p := ⟨w.heap.size, 1, none⟩) (Nat.le_refl w.heap.size) _⟩, ⟨by have := HL.out; simpa [World.setCell] using this⟩⟩
              · have f34 : ((d.toNat : Int) != 34) = true := by rw [bne, show (34 : Int) = ((34 : Nat) : Int) from rfl, c_eq (by decide)]; simpa using (fun h => hdq (Or.inl h))
                have f92 : ((d.toNat : Int) != 92) = true := by rw [bne, show (92 : Int) = ((92 : Nat) : Int) from rfl, c_eq (by decide)]; simpa using (fun h => hdq (Or.inr h))
                have HE := Aside0.mk (show textL (dropB s i1) [] = (none, dropB s j) by rw [← HN.out.2.2.2, HD.out, ← HJ.out, HD1.out, textL_b2 _ _ HC.out hdq])
                clear hj hdq
                have HRV := Aside0.mk (HRV0.out.trans ((congrArg (fun x => strRV s (textR x)) HE.out).trans (strRV_none (by omega))))
                go_wp2_with fail
                -- 'return bad(p, j), ..'
                refine (rbad_calls s (j : Int) (j : Int) false _).mono ?_
                rintro e w5 ⟨rfl, hb⟩
                clear c0 c1 c2 f0 f1 f2 d0 d1 d2 g0 g1 g2
                -- behind a call: the two blocks of the call's own
                have k1_ := Aside0.mk ((hb.block _ (blk_lt KB1.out)).trans KB1.out)
                have k2_ := Aside0.mk ((hb.block _ (blk_lt KB2.out)).trans KB2.out)
                have n_ := Aside0.mk (below_then HB.out HB.out.size hb)
                clear KB1 KB2 HB hb
                have KB1 := k1_
                have KB2 := k2_
                have HB := n_
                clear k1_ k2_ n_
                obtain ⟨c0, c1, c2, f0, f1, f2⟩ := spot_cells KB1.out
                obtain ⟨d0, d1, d2, g0, g1, g2⟩ := spot_cells KB2.out
                unfold spotV
                go_wp2
                refine bodyPost_ret (v := .tuple #[.agg #[.string s, .int .i64 (j : Int), .bool true], .string ⟨#[]⟩]) (by simp [results, Tryd.results67, go_sem, d0, d1, d2]) rfl ⟨congrArg Ending.returned HRV.out.symm, spot_below HB.out (Nat.le_succ w.heap.size) s (j : Int) true⟩
            · have hje : i + 1 = s.size := by omega
              have q3 := decide_eq_true (show ((s.size : Int) ≤ ((i + 1 : Nat) : Int)) by omega)
              have q4 := decide_eq_true (show (s.size ≤ i + 1) by omega)
              have HE := Aside0.mk (show textL (dropB s i1) [] = (none, dropB s (i + 1)) by rw [← HN.out.2.2.2, HD.out, dropB_nil (show s.size ≤ i + 1 by omega), textL_b0 _ HC.out])
              have hle1 : i + 1 ≤ s.size := by omega
              obtain ⟨j, hj⟩ : ∃ j, j = i + 1 := ⟨_, rfl⟩
              rw [← hj] at q3 q4 hle1 HE KB1 c1 ⊢
              clear hje hlt1 hj hx hlt
              have HRV := Aside0.mk (HRV0.out.trans ((congrArg (fun x => strRV s (textR x)) HE.out).trans (strRV_none (by omega))))
              go_wp2_with fail
              -- 'return bad(p, j), ..'
              refine (rbad_calls s (j : Int) (j : Int) false _).mono ?_
              rintro e w5 ⟨rfl, hb⟩
              clear c0 c1 c2 f0 f1 f2 d0 d1 d2 g0 g1 g2
              -- behind a call: the two blocks of the call's own
              have k1_ := Aside0.mk ((hb.block _ (blk_lt KB1.out)).trans KB1.out)
              have k2_ := Aside0.mk ((hb.block _ (blk_lt KB2.out)).trans KB2.out)
              have n_ := Aside0.mk (below_then HB.out HB.out.size hb)
              clear KB1 KB2 HB hb
              have KB1 := k1_
              have KB2 := k2_
              have HB := n_
              clear k1_ k2_ n_
              obtain ⟨c0, c1, c2, f0, f1, f2⟩ := spot_cells KB1.out
              obtain ⟨d0, d1, d2, g0, g1, g2⟩ := spot_cells KB2.out
              unfold spotV
              go_wp2
              refine bodyPost_ret (v := .tuple #[.agg #[.string s, .int .i64 (j : Int), .bool true], .string ⟨#[]⟩]) (by simp [results, Tryd.results67, go_sem, d0, d1, d2]) rfl ⟨congrArg Ending.returned HRV.out.symm, spot_below HB.out (Nat.le_succ w.heap.size) s (j : Int) true⟩
          · have e92 : ((c.toNat : Int) == 92) = false := by rw [show (92 : Int) = ((92 : Nat) : Int) from rfl, c_eq (by decide)]; simpa using h92
            by_cases g0 : 32 ≤ c
            · have g1 := decide_eq_false (show ¬ (c.toNat : Int) < 32 by have := UInt8.le_iff_toNat_le.mp g0; simp at this; omega)
              by_cases g9 : c ≤ 126
              · have g2 := decide_eq_false (show ¬ 126 < (c.toNat : Int) by have := UInt8.le_iff_toNat_le.mp g9; simp at this; omega)
                have HE := Aside0.mk (show textL (dropB s i) acc = textL (dropB s (i + 1)) (acc ++ [c]) by rw [HD.out, textL_p _ _ h34 h92 ⟨g0, g9⟩])
                clear h34 h92 g0 g9
                go_wp2_with ((with_reducible refine gate_builtin (b := .append) (xs := #[.tmp 83, .tmp 85]) rfl ?_); at_builtin; go_loud (refine Kd.R_append (Kd.int .u8) (w0 := w) w.heap.size rfl (.tmp 83) (.tmp 85) 24 5 (.int .u8 0) 1 rfl Tryd.underlying24 info5 rfl (by decide) (by omega) _ (numsB _) ((c).toNat : Int) [.int .u8 ((c).toNat : Int)] (fun k => w.heap.size + 2 ≤ k) (fun _ => False) rfl ?aX ?aP (fun _ hk => hk.elim) ?aF HO.out HB.out HB.out.size ?aL ?_; (case aX => first | rfl | (go_simp; done) | (go_simp; rfl)); (case aP => exact rfl); (case aF => exact (fun k hk => by have := HL.out; omega)); (case aL => have := HN.out; simp [numsB]; omega); intro v9 w9 ho hb hg hat; rw [← numsB_snoc] at ho; have n0_ := Aside0.mk ho; have n1_ := Aside0.mk hb; have n2_ := Aside0.mk ((hg.block _ (blk_lt KB1.out) (fun e => absurd (HO.out.1 _ e.symm) (by omega))).trans KB1.out); have n3_ := Aside0.mk ((hg.block _ (blk_lt KB2.out) (fun e => absurd (HO.out.1 _ e.symm) (by omega))).trans KB2.out); have n4_ := Aside0.mk (Nat.le_trans HL.out hg.size); clear HO HB KB1 KB2 HL ho hb hg hat c0 c1 c2 f0 f1 f2 d0 d1 d2 g0 g1 g2; have HO := n0_; have HB := n1_; have KB1 := n2_; have KB2 := n3_; have HL := n4_; clear n0_ n1_ n2_ n3_ n4_; obtain ⟨c0, c1, c2, f0, f1, f2⟩ := spot_cells KB1.out; obtain ⟨d0, d1, d2, g0, g1, g2⟩ := spot_cells KB2.out))
                go_roundg (gk - 1)
                case measure => have := HN.out; omega
                case rel => exact ⟨acc ++ [c], i + 1, ⟨by omega, by have := HN.out; omega, by have := HN.out; simp; omega, by rw [← HN.out.2.2.2, HE.out]⟩, ⟨Kd.R_far (p := ⟨w.heap.size, 1, none⟩) HO.out (fun k hk => by show k ≠ w.heap.size; omega) _⟩, ⟨spot_set1 KB1.out _⟩, ⟨spot_far1 KB2.out (by omega) _⟩, ⟨HB.out.setCell (p := ⟨w.heap.size, 1, none⟩) (Nat.le_refl w.heap.size) _⟩, ⟨by have := HL.out; simpa [World.setCell] using this⟩⟩
              · have g2 := decide_eq_true (show 126 < (c.toNat : Int) by have : ¬ c.toNat ≤ 126 := (fun h => g9 (by rw [UInt8.le_iff_toNat_le]; exact h)); omega)
                have HRV := Aside0.mk (HRV0.out.trans ((congrArg (fun x => strRV s (textR x)) (show textL (dropB s i1) [] = (none, dropB s i) by rw [← HN.out.2.2.2, HD.out, textL_n _ _ h34 h92 (fun h => g9 h.2)])).trans (strRV_none (by omega))))
                go_wp2_with fail
                -- 'return bad(p, j), ..'
                refine (rbad_calls s (i : Int) (i : Int) false _).mono ?_
                rintro e w5 ⟨rfl, hb⟩
                clear c0 c1 c2 f0 f1 f2 d0 d1 d2 g0 g1 g2
                -- behind a call: the two blocks of the call's own
                have k1_ := Aside0.mk ((hb.block _ (blk_lt KB1.out)).trans KB1.out)
                have k2_ := Aside0.mk ((hb.block _ (blk_lt KB2.out)).trans KB2.out)
                have n_ := Aside0.mk (below_then HB.out HB.out.size hb)
                clear KB1 KB2 HB hb
                have KB1 := k1_
                have KB2 := k2_
                have HB := n_
                clear k1_ k2_ n_
                obtain ⟨c0, c1, c2, f0, f1, f2⟩ := spot_cells KB1.out
                obtain ⟨d0, d1, d2, g0, g1, g2⟩ := spot_cells KB2.out
                unfold spotV
                go_wp2
                refine bodyPost_ret (v := .tuple #[.agg #[.string s, .int .i64 (i : Int), .bool true], .string ⟨#[]⟩]) (by simp [results, Tryd.results67, go_sem, d0, d1, d2]) rfl ⟨congrArg Ending.returned HRV.out.symm, spot_below HB.out (Nat.le_succ w.heap.size) s (i : Int) true⟩
            · have g1 := decide_eq_true (show (c.toNat : Int) < 32 by have : ¬ 32 ≤ c.toNat := (fun h => g0 (by rw [UInt8.le_iff_toNat_le]; exact h)); omega)
              have HRV := Aside0.mk (HRV0.out.trans ((congrArg (fun x => strRV s (textR x)) (show textL (dropB s i1) [] = (none, dropB s i) by rw [← HN.out.2.2.2, HD.out, textL_n _ _ h34 h92 (fun h => g0 h.1)])).trans (strRV_none (by omega))))
              go_wp2_with fail
              -- 'return bad(p, j), ..'
              refine (rbad_calls s (i : Int) (i : Int) false _).mono ?_
              rintro e w5 ⟨rfl, hb⟩
              clear c0 c1 c2 f0 f1 f2 d0 d1 d2 g0 g1 g2
              -- behind a call: the two blocks of the call's own
              have k1_ := Aside0.mk ((hb.block _ (blk_lt KB1.out)).trans KB1.out)
              have k2_ := Aside0.mk ((hb.block _ (blk_lt KB2.out)).trans KB2.out)
              have n_ := Aside0.mk (below_then HB.out HB.out.size hb)
              clear KB1 KB2 HB hb
              have KB1 := k1_
              have KB2 := k2_
              have HB := n_
              clear k1_ k2_ n_
              obtain ⟨c0, c1, c2, f0, f1, f2⟩ := spot_cells KB1.out
              obtain ⟨d0, d1, d2, g0, g1, g2⟩ := spot_cells KB2.out
              unfold spotV
              go_wp2
              refine bodyPost_ret (v := .tuple #[.agg #[.string s, .int .i64 (i : Int), .bool true], .string ⟨#[]⟩]) (by simp [results, Tryd.results67, go_sem, d0, d1, d2]) rfl ⟨congrArg Ending.returned HRV.out.symm, spot_below HB.out (Nat.le_succ w.heap.size) s (i : Int) true⟩
      · have q3 := decide_eq_true (show ((s.size : Int) ≤ (i : Int)) by omega)
        have q4 := decide_eq_true (show (s.size ≤ i) by omega)
        clear hlt
        have HRV := Aside0.mk (HRV0.out.trans ((congrArg (fun x => strRV s (textR x)) (show textL (dropB s i1) [] = (none, dropB s i) by rw [← HN.out.2.2.2, dropB_nil (of_decide_eq_true q4), textL_nil])).trans (strRV_none (by omega))))
        go_wp2_with fail
        -- 'return bad(p, j), ..'
        refine (rbad_calls s (i : Int) (i : Int) false _).mono ?_
        rintro e w5 ⟨rfl, hb⟩
        clear c0 c1 c2 f0 f1 f2 d0 d1 d2 g0 g1 g2
        -- behind a call: the two blocks of the call's own
        have k1_ := Aside0.mk ((hb.block _ (blk_lt KB1.out)).trans KB1.out)
        have k2_ := Aside0.mk ((hb.block _ (blk_lt KB2.out)).trans KB2.out)
        have n_ := Aside0.mk (below_then HB.out HB.out.size hb)
        clear KB1 KB2 HB hb
        have KB1 := k1_
        have KB2 := k2_
        have HB := n_
        clear k1_ k2_ n_
        obtain ⟨c0, c1, c2, f0, f1, f2⟩ := spot_cells KB1.out
        obtain ⟨d0, d1, d2, g0, g1, g2⟩ := spot_cells KB2.out
        unfold spotV
        go_wp2
        refine bodyPost_ret (v := .tuple #[.agg #[.string s, .int .i64 (i : Int), .bool true], .string ⟨#[]⟩]) (by simp [results, Tryd.results67, go_sem, d0, d1, d2]) rfl ⟨congrArg Ending.returned HRV.out.symm, spot_below HB.out (Nat.le_succ w.heap.size) s (i : Int) true⟩
end Go.Proofs.YthaapijjjgkacaaDoor.Mine
end
section
/-
  The filter parser as plain functions: enough rounds are enough; what stands behind a blank changes nothing of what stands ahead; blanks ahead and behind.
-/
namespace Go.Proofs.YthaapijjjgkacaaDoor.Mine

/-! ### rounds -/
theorem parseS_fuel : ∀ (n k j : Nat) (l : List UInt8) (acc : List Pr), l.length ≤ n → l.length < k → l.length < j → parseS k ⟨l, none⟩ acc = parseS j ⟨l, none⟩ acc
  | n, k, j, l, acc, hn, hk, hj => by
    obtain ⟨k, rfl⟩ : ∃ m, k = m + 1 := ⟨k - 1, by omega⟩
    obtain ⟨j, rfl⟩ : ∃ m, j = m + 1 := ⟨j - 1, by omega⟩
    rw [parseS_succ, parseS_succ]
    cases hb : (blanksS (predS ⟨l, none⟩).2).bad with
    | some m => rfl
    | none =>
      simp only
      split
      · rfl
      · cases ha : (andS (blanksS (predS ⟨l, none⟩).2)).bad with
        | some m => rfl
        | none =>
          simp only
          have h1 := andS_lt hb ha
          have h2 := blanksS_le (predS ⟨l, none⟩).2
          have h3 := predS_le (st := ⟨l, none⟩) rfl
          have h4 : (predS ⟨l, none⟩).2.l.length ≤ l.length := h3
          generalize hst : andS (blanksS (predS ⟨l, none⟩).2) = st at ha h1 ⊢
          obtain ⟨l2, b2⟩ := st
          cases ha
          have h5 : l2.length < l.length := by simp only at h1; omega
          match n with
          | 0 => omega
          | n + 1 => exact parseS_fuel n k j l2 _ (by omega) (by omega) (by omega)
def PS (l : List UInt8) (acc : List Pr) : List Pr ⊕ Nat := parseS (l.length + 1) ⟨l, none⟩ acc
def PN (st : St) (acc : List Pr) : List Pr ⊕ Nat := match st.bad with | some n => .inr n | none => PS st.l acc
theorem PS_eq (l : List UInt8) (acc : List Pr) : PS l acc =
    match (blanksS (predS ⟨l, none⟩).2).bad with
    | some n => .inr n
    | none => if (blanksS (predS ⟨l, none⟩).2).l = [] then .inl (acc ++ [(predS ⟨l, none⟩).1]) else PN (andS (blanksS (predS ⟨l, none⟩).2)) (acc ++ [(predS ⟨l, none⟩).1]) := by
  unfold PS
  rw [parseS_succ]
  cases hb : (blanksS (predS ⟨l, none⟩).2).bad with
  | some m => rfl
  | none =>
    simp only
    split
    · rfl
    · unfold PN
      cases ha : (andS (blanksS (predS ⟨l, none⟩).2)).bad with
      | some m => rfl
      | none =>
        simp only
        have h1 := andS_lt hb ha
        have h2 := blanksS_le (predS ⟨l, none⟩).2
        have h4 : (predS ⟨l, none⟩).2.l.length ≤ l.length := predS_le (st := ⟨l, none⟩) rfl
        generalize hst : andS (blanksS (predS ⟨l, none⟩).2) = st at ha h1 ⊢
        obtain ⟨l2, b2⟩ := st
        cases ha
        have h5 : l2.length < l.length := by simp only at h1; omega
        exact parseS_fuel l2.length _ _ l2 _ (Nat.le_refl _) h5 (Nat.lt_succ_self _)

/-! ### what stands behind a blank -/
theorem skip_ext {l : List UInt8} (t : List UInt8) (h : skip l ≠ []) : skip (l ++ t) = skip l ++ t := by
  induction l with
  | nil => exact absurd rfl h
  | cons c r ih =>
    by_cases hc : c = 32
    · rw [skip, if_pos hc] at h
      rw [List.cons_append, skip, if_pos hc, skip, if_pos hc]
      exact ih h
    · rw [List.cons_append, skip, if_neg hc, skip, if_neg hc]
      rfl
theorem skip_ext0 {l : List UInt8} (t : List UInt8) (h : skip l = []) : skip (l ++ t) = skip t := by
  induction l with
  | nil => rfl
  | cons c r ih =>
    by_cases hc : c = 32
    · rw [skip, if_pos hc] at h
      rw [List.cons_append, skip, if_pos hc]
      exact ih h
    · rw [skip, if_neg hc] at h
      cases h
theorem tw_ext (p : UInt8 → Bool) (r t : List UInt8) (h : p 32 = false) : (r ++ 32 :: t).takeWhile p = r.takeWhile p ∧ (r ++ 32 :: t).dropWhile p = r.dropWhile p ++ 32 :: t := by
  induction r with
  | nil => simp [h]
  | cons c r ih =>
    rw [List.cons_append, List.takeWhile_cons, List.takeWhile_cons, List.dropWhile_cons, List.dropWhile_cons]
    cases hc : p c with
    | true => exact ⟨by simp [ih.1], by simp [ih.2]⟩
    | false => simp
theorem wordL_ext {l w r : List UInt8} (t : List UInt8) (h : wordL l = (w, ⟨r, none⟩)) : wordL (l ++ 32 :: t) = (w, ⟨r ++ 32 :: t, none⟩) := by
  match l with
  | [] => simp [wordL] at h
  | c :: r0 =>
    by_cases hc : isL c = true
    · simp only [wordL, if_pos hc, Prod.mk.injEq, St.mk.injEq, and_true] at h
      obtain ⟨h1, h2⟩ := h
      obtain ⟨e1, e2⟩ := tw_ext isA r0 t (by decide)
      rw [List.cons_append]
      simp only [wordL, if_pos hc, e1, e2, h1, h2]
    · simp [wordL, hc] at h
theorem skip_word {l : List UInt8} (h : (wordL (skip l)).2.bad = none) : skip l ≠ [] := by
  intro e
  rw [e] at h
  simp [wordL] at h
theorem wordS_ext {l w r : List UInt8} (t : List UInt8) (h : wordS ⟨l, none⟩ = (w, ⟨r, none⟩)) : wordS ⟨l ++ 32 :: t, none⟩ = (w, ⟨r ++ 32 :: t, none⟩) := by
  have h1 : wordL (skip l) = (w, ⟨r, none⟩) := h
  show wordL (skip (l ++ 32 :: t)) = _
  rw [skip_ext _ (skip_word (by rw [h1]))]
  exact wordL_ext t h1
theorem markL_ext {m l r : List UInt8} (t : List UInt8) (h : markL m l = ⟨r, none⟩) : markL m (l ++ t) = ⟨r ++ t, none⟩ := by
  unfold markL at h ⊢
  cases hp : m.isPrefixOf l with
  | false => rw [hp] at h; simp at h
  | true =>
    rw [hp] at h
    simp at h
    have hpre := List.isPrefixOf_iff_prefix.mp hp
    have h2 : m.isPrefixOf (l ++ t) = true := List.isPrefixOf_iff_prefix.mpr (hpre.trans (List.prefix_append _ _))
    rw [h2, if_pos rfl, List.drop_append_of_le_length hpre.length_le, h]
theorem markS_ext {m l r : List UInt8} (t : List UInt8) (hm : m ≠ []) (h : markS m ⟨l, none⟩ = ⟨r, none⟩) : markS m ⟨l ++ t, none⟩ = ⟨r ++ t, none⟩ := by
  have h1 : markL m (skip l) = ⟨r, none⟩ := h
  have h2 : skip l ≠ [] := by
    intro e
    rw [e] at h1
    unfold markL at h1
    cases m with
    | nil => exact hm rfl
    | cons a b => simp at h1
  show markL m (skip (l ++ t)) = _
  rw [skip_ext _ h2]
  exact markL_ext t h1
theorem textL_ext : ∀ (n : Nat) (l acc : List UInt8), l.length ≤ n → ∀ (t s r : List UInt8), textL l acc = (some s, r) → textL (l ++ t) acc = (some s, r ++ t)
  | n, [], acc, _, t, s, r, h => by rw [textL_nil] at h; simp at h
  | n, c :: r0, acc, hn, t, s, r, h => by
    rw [List.cons_append]
    by_cases h1 : c = 34
    · rw [textL_q _ _ h1] at h ⊢
      simp at h
      simp [h]
    · match n with
      | 0 => simp at hn
      | n + 1 =>
        by_cases h2 : c = 92
        · match r0 with
          | [] => rw [textL_b0 _ h2] at h; simp at h
          | d :: r' =>
            by_cases h3 : d = 34 ∨ d = 92
            · rw [textL_b1 _ _ h2 h3] at h
              rw [List.cons_append, textL_b1 _ _ h2 h3]
              exact textL_ext n r' _ (by simp at hn; omega) t s r h
            · rw [textL_b2 _ _ h2 h3] at h; simp at h
        · by_cases h3 : 32 ≤ c ∧ c ≤ 126
          · rw [textL_p _ _ h1 h2 h3] at h ⊢
            exact textL_ext n r0 _ (by simp at hn; omega) t s r h
          · rw [textL_n _ _ h1 h2 h3] at h; simp at h
theorem textS_ext {l w r : List UInt8} (t : List UInt8) (h : textS ⟨l, none⟩ = (w, ⟨r, none⟩)) : textS ⟨l ++ t, none⟩ = (w, ⟨r ++ t, none⟩) := by
  unfold textS at h ⊢
  cases hm : markS [34] ⟨l, none⟩ with
  | mk l1 b1 =>
    cases b1 with
    | some n => rw [hm] at h; simp at h
    | none =>
      rw [hm] at h
      rw [markS_ext t (by simp) hm]
      simp only at h ⊢
      cases hx : textL l1 [] with
      | mk o r1 =>
        rw [hx] at h
        cases o with
        | none => simp [textR] at h
        | some s =>
          rw [textL_ext _ _ _ (Nat.le_refl _) t s r1 hx]
          simp [textR] at h ⊢
          exact ⟨h.1, by rw [h.2]⟩
theorem numD_ext {f f' : Nat} {sg v : Int} {d r : List UInt8} (t : List UInt8) (h : numD f sg d = (v, ⟨r, none⟩)) : numD f' sg (d ++ 32 :: t) = (v, ⟨r ++ 32 :: t, none⟩) := by
  obtain ⟨e1, e2⟩ := tw_ext isD d t (by decide)
  unfold numD at h ⊢
  rw [e1, e2]
  by_cases h1 : 10 < (d.takeWhile isD).length
  · rw [if_pos h1] at h; simp at h
  · rw [if_neg h1] at h ⊢
    by_cases h2 : numBad sg d
    · rw [if_pos h2] at h; simp at h
    · rw [if_neg h2] at h
      have h3 : ¬ numBad sg (d ++ 32 :: t) := by
        intro hb
        apply h2
        unfold numBad at hb ⊢
        rw [e1] at hb
        rcases hb with hb | hb | hb
        · exact Or.inl hb
        · refine Or.inr (Or.inl ⟨hb.1, ?_⟩)
          cases d with
          | nil => simp at hb
          | cons c d => simpa using hb.2
        · exact Or.inr (Or.inr hb)
      rw [if_neg h3]
      simp at h ⊢
      exact ⟨h.1, by rw [h.2]⟩
theorem numL_ext {v : Int} {l r : List UInt8} (t : List UInt8) (h : numL l = (v, ⟨r, none⟩)) : numL (l ++ 32 :: t) = (v, ⟨r ++ 32 :: t, none⟩) := by
  match l with
  | [] => simp [numL, numD, numBad] at h
  | c :: r0 =>
    rw [List.cons_append]
    by_cases hc : c = 45
    · simp only [numL, if_pos hc] at h ⊢
      exact numD_ext t h
    · simp only [numL, if_neg hc] at h ⊢
      rw [← List.cons_append]
      exact numD_ext t h
theorem numberS_ext {v : Int} {l r : List UInt8} (t : List UInt8) (h : numberS ⟨l, none⟩ = (v, ⟨r, none⟩)) : numberS ⟨l ++ 32 :: t, none⟩ = (v, ⟨r ++ 32 :: t, none⟩) := by
  have h1 : numL (skip l) = (v, ⟨r, none⟩) := h
  have h2 : skip l ≠ [] := by
    intro e
    rw [e] at h1
    simp [numL, numD, numBad] at h1
  show numL (skip (l ++ 32 :: t)) = _
  rw [skip_ext _ h2]
  exact numL_ext t h1
/-- A state that isn't bad came of one that wasn't. -/
theorem wordS_good {st : St} (h : (wordS st).2.bad = none) : st.bad = none := by
  cases hb : st.bad with
  | none => rfl
  | some n => rw [wordS_bad hb, hb] at h; cases h
theorem markS_good {m : List UInt8} {st : St} (h : (markS m st).bad = none) : st.bad = none := by
  cases hb : st.bad with
  | none => rfl
  | some n => rw [markS_bad hb, hb] at h; cases h
theorem textS_good {st : St} (h : (textS st).2.bad = none) : st.bad = none := by
  cases hb : st.bad with
  | none => rfl
  | some n => rw [textS_bad hb, hb] at h; cases h
theorem numberS_good {st : St} (h : (numberS st).2.bad = none) : st.bad = none := by
  cases hb : st.bad with
  | none => rfl
  | some n => rw [numberS_bad hb, hb] at h; cases h
theorem blanksS_good {st : St} (h : (blanksS st).bad = none) : st.bad = none := by
  cases hb : st.bad with
  | none => rfl
  | some n => rw [blanksS_bad hb, hb] at h; cases h
theorem good_eta {st : St} (h : st.bad = none) : st = ⟨st.l, none⟩ := by cases st; cases h; rfl
theorem inS_ext {nm l : List UInt8} (t : List UInt8) (h : (inS nm ⟨l, none⟩).2.bad = none) : inS nm ⟨l ++ 32 :: t, none⟩ = ((inS nm ⟨l, none⟩).1, ⟨(inS nm ⟨l, none⟩).2.l ++ 32 :: t, none⟩) := by
  have h0 : (numberS (markS [46, 46] (numberS (if (wordS ⟨l, none⟩).1 = [105, 110] then (wordS ⟨l, none⟩).2 else stopS (wordS ⟨l, none⟩).2 l.length)).2)).2.bad = none := h
  have h1 := numberS_good h0
  have h2 := markS_good h1
  have h3 := numberS_good h2
  have hw : (wordS ⟨l, none⟩).1 = [105, 110] := by
    by_cases hw : (wordS ⟨l, none⟩).1 = [105, 110]
    · exact hw
    · rw [if_neg hw] at h3
      exact (stopS_none h3).elim
  rw [if_pos hw] at h0 h1 h2 h3
  obtain ⟨w, a⟩ : ∃ w a, wordS ⟨l, none⟩ = (w, a) := ⟨_, _, rfl⟩
  obtain ⟨a, ea⟩ := a
  rw [ea] at hw h0 h1 h2 h3
  simp only at hw h0 h1 h2 h3
  subst hw
  rw [good_eta h3] at ea h0 h1 h2
  have ex := wordS_ext t ea
  cases en : numberS ⟨a.l, none⟩ with
  | mk v1 n1 =>
    rw [en] at h0 h1 h2
    simp only at h0 h1 h2
    rw [good_eta h2] at en h0 h1
    have en2 := numberS_ext t en
    have em := good_eta h1
    have em2 := markS_ext (32 :: t) (by simp) em
    rw [em] at h0
    cases ek : numberS ⟨(markS [46, 46] ⟨n1.l, none⟩).l, none⟩ with
    | mk v2 n2 =>
      rw [ek] at h0
      simp only at h0
      rw [good_eta h0] at ek
      have ek2 := numberS_ext t ek
      unfold inS
      simp only [ea, ex, if_true, en, en2]
      rw [em2, ek2, em, ek]
end Go.Proofs.YthaapijjjgkacaaDoor.Mine
end
