/-
  The reference's parser of filters, walked: word. Conditions: the text at most 1000 bytes.
-/
import Derived.Test.YthaapijjjgkacaaDoorRef2
set_option linter.unusedSimpArgs false
set_option linter.unusedVariables false
namespace Go.Proofs.YthaapijjjgkacaaDoor.Mine
open Go.RowKit Go.Proofs.YthaapijjjgkacaaDoorW.PrintWords Go.Proofs.YthaapijjjgkacaaDoorW.PrintLast Go.Proofs.YthaapijjjgkacaaDoorW.PrintMore
open Go.Proofs.YthaapijjjgkacaaDoor.PFilterReads
set_option maxHeartbeats 1000000 in
set_option maxRecDepth 100000 in
theorem rword_calls (s : ByteArray) (st : St) (w : World) (hs : s.size ≤ 1000) (hok : st.ok (bytes s)) :
    Calls Tryd.prog 41 #[stV s st] w fun e w' => e = .returned (.tuple #[stV s (wordS st).2, .string ⟨(wordS st).1.toArray⟩]) ∧ Below w.heap.size w w' := by
  have hok1 := blanksS_ok hok
  have hbl := fun w => rblanks_calls s st w hs hok
  obtain ⟨l, bad⟩ := st
  cases bad with
  | some n =>
    rw [wordS_bad rfl]
    rw [blanksS_bad rfl] at hbl
    show Calls _ _ _ w fun e w' => e = .returned (.tuple #[stV s ⟨l, some n⟩, .string ⟨#[]⟩]) ∧ _
    rw [stV_bad] at hbl ⊢
    generalize ((s.size - n : Nat) : Int) = i at hbl ⊢
    -- the two blocks of the call's own, at its beginning
    obtain ⟨hn1, hn2⟩ := spot_new w s ⟨#[]⟩ i 0 true false
    have KB1 := Aside0.mk hn1
    have KB2 := Aside0.mk hn2
    have HB := Aside0.mk (below_alloc (below_alloc (Below.refl w.heap.size w) (.cells #[.string s, .int .i64 i, .bool true] 83)) (.cells #[.string ⟨#[]⟩, .int .i64 0, .bool false] 83))
    clear hn1 hn2
    go_enter Tryd.func41, Tryd.ntmps41
    -- the first call, its spot stored into block 1
    go_wp2_with fail
    refine (hbl _).mono ?_
    rintro e w1 ⟨rfl, hb⟩
    -- behind a call: the two blocks of the call's own
    have k1_ := Aside0.mk ((hb.block _ (blk_lt KB1.out)).trans KB1.out)
    have k2_ := Aside0.mk ((hb.block _ (blk_lt KB2.out)).trans KB2.out)
    have n_ := Aside0.mk (below_then HB.out HB.out.size hb)
    clear KB1 KB2 HB hb
    have KB1 := k1_
    have KB2 := k2_
    have HB := n_
    clear k1_ k2_ n_
    obtain ⟨c0, c1, c2, f0, f1, f2⟩ := spot_cells KB1.out
    obtain ⟨d0, d1, d2, g0, g1, g2⟩ := spot_cells KB2.out
    go_upto_region 2 with (fail)
    clear c0 c1 c2 f0 f1 f2 d0 d1 d2 g0 g1 g2
    -- block 1 gets a spot
    have k1_ := Aside0.mk (spot_set KB1.out s i true)
    have k2_ := Aside0.mk (spot_far KB2.out (show w.heap.size + 1 ≠ w.heap.size by omega) s i true)
    have n_ := Aside0.mk (spot_below HB.out (Nat.le_refl w.heap.size) s i true)
    clear KB1 KB2 HB
    have KB1 := k1_
    have KB2 := k2_
    have HB := n_
    clear k1_ k2_ n_
    -- the world behind a store of a spot into block 1 gets a name
    generalize (((w1.setCell ⟨w.heap.size, 0, none⟩ (.string s)).setCell ⟨w.heap.size, 1, none⟩ (.int .i64 i)).setCell ⟨w.heap.size, 2, none⟩ (.bool true)) = w2 at KB1 KB2 HB ⊢
    obtain ⟨c0, c1, c2, f0, f1, f2⟩ := spot_cells KB1.out
    obtain ⟨d0, d1, d2, g0, g1, g2⟩ := spot_cells KB2.out
    go_wp2_with fail
    -- 'return bad(p, j), ""'
    refine (rbad_calls s i i true _).mono ?_
    rintro e w3 ⟨rfl, hb⟩
    clear c0 c1 c2 f0 f1 f2 d0 d1 d2 g0 g1 g2
    -- behind a call: the two blocks of the call's own
    have k1_ := Aside0.mk ((hb.block _ (blk_lt KB1.out)).trans KB1.out)
    have k2_ := Aside0.mk ((hb.block _ (blk_lt KB2.out)).trans KB2.out)
    have n_ := Aside0.mk (below_then HB.out HB.out.size hb)
    clear KB1 KB2 HB hb
    have KB1 := k1_
    have KB2 := k2_
    have HB := n_
    clear k1_ k2_ n_
    obtain ⟨c0, c1, c2, f0, f1, f2⟩ := spot_cells KB1.out
    obtain ⟨d0, d1, d2, g0, g1, g2⟩ := spot_cells KB2.out
    unfold spotV
    go_wp2
    refine bodyPost_ret (v := .tuple #[.agg #[.string s, .int .i64 i, .bool true], .string ⟨#[]⟩]) (by simp [results, Tryd.results41, go_sem, d0, d1, d2]) rfl ⟨rfl, spot_below HB.out (Nat.le_succ w.heap.size) s i true⟩
  | none =>
    rw [stV_good] at hbl ⊢
    have e1 : blanksS ⟨l, none⟩ = ⟨skip l, none⟩ := rfl
    have e2 : wordS ⟨l, none⟩ = wordL (skip l) := rfl
    rw [e1] at hbl hok1
    rw [stV_good] at hbl
    rw [e2]
    have hle := P_le hok1
    have hsuf : skip l <:+ bytes s := hok1.1
    have hd := suf_drop hsuf
    simp only at hle
    have hws := word_str s (skip l) hsuf hle
    generalize skip l = L at hbl hle hd hws ⊢
    generalize ((s.size - l.length : Nat) : Int) = i0 at hbl ⊢
    obtain ⟨i, hi⟩ : ∃ i, s.size - L.length = i := ⟨_, rfl⟩
    rw [hi] at hbl hd hws
    have hiz : i ≤ s.size := by omega
    have hli : L.length = s.size - i := by omega
    clear hok hok1 hsuf hi e1 e2
    -- the two blocks of the call's own, at its beginning
    obtain ⟨hn1, hn2⟩ := spot_new w s ⟨#[]⟩ i0 0 false false
    have KB1 := Aside0.mk hn1
    have KB2 := Aside0.mk hn2
    have HB := Aside0.mk (below_alloc (below_alloc (Below.refl w.heap.size w) (.cells #[.string s, .int .i64 i0, .bool false] 83)) (.cells #[.string ⟨#[]⟩, .int .i64 0, .bool false] 83))
    clear hn1 hn2
    cases L with
    | nil =>
      have hr : (wordL []).2 = ⟨[], some 0⟩ := rfl
      have hr2 : (wordL []).1 = [] := rfl
      rw [hr, hr2, stV_bad]
      have hii : s.size - 0 = i := by simp at hli; omega
      rw [hii]
      have q1 : decide ((s.size : Int) ≤ (i : Int)) = true := decide_eq_true (by simp at hli; omega)
      show Calls _ _ _ w fun e w' => e = .returned (.tuple #[.agg #[.string s, .int .i64 (i : Int), .bool true], .string ⟨#[]⟩]) ∧ _
      clear hws hr hr2 hd hli
      go_enter Tryd.func41, Tryd.ntmps41
      -- the first call, its spot stored into block 1
      go_wp2_with fail
      refine (hbl _).mono ?_
      rintro e w1 ⟨rfl, hb⟩
      -- behind a call: the two blocks of the call's own
      have k1_ := Aside0.mk ((hb.block _ (blk_lt KB1.out)).trans KB1.out)
      have k2_ := Aside0.mk ((hb.block _ (blk_lt KB2.out)).trans KB2.out)
      have n_ := Aside0.mk (below_then HB.out HB.out.size hb)
      clear KB1 KB2 HB hb
      have KB1 := k1_
      have KB2 := k2_
      have HB := n_
      clear k1_ k2_ n_
      obtain ⟨c0, c1, c2, f0, f1, f2⟩ := spot_cells KB1.out
      obtain ⟨d0, d1, d2, g0, g1, g2⟩ := spot_cells KB2.out
      go_upto_region 2 with (fail)
      clear c0 c1 c2 f0 f1 f2 d0 d1 d2 g0 g1 g2
      -- block 1 gets a spot
      have k1_ := Aside0.mk (spot_set KB1.out s (i : Int) false)
      have k2_ := Aside0.mk (spot_far KB2.out (show w.heap.size + 1 ≠ w.heap.size by omega) s (i : Int) false)
      have n_ := Aside0.mk (spot_below HB.out (Nat.le_refl w.heap.size) s (i : Int) false)
      clear KB1 KB2 HB
      have KB1 := k1_
      have KB2 := k2_
      have HB := n_
      clear k1_ k2_ n_
      -- the world behind a store of a spot into block 1 gets a name
      generalize (((w1.setCell ⟨w.heap.size, 0, none⟩ (.string s)).setCell ⟨w.heap.size, 1, none⟩ (.int .i64 (i : Int))).setCell ⟨w.heap.size, 2, none⟩ (.bool false)) = w2 at KB1 KB2 HB ⊢
      obtain ⟨c0, c1, c2, f0, f1, f2⟩ := spot_cells KB1.out
      obtain ⟨d0, d1, d2, g0, g1, g2⟩ := spot_cells KB2.out
      go_wp2_with fail
      -- 'return bad(p, j), ""'
      refine (rbad_calls s (i : Int) (i : Int) false _).mono ?_
      rintro e w3 ⟨rfl, hb⟩
      clear c0 c1 c2 f0 f1 f2 d0 d1 d2 g0 g1 g2
      -- behind a call: the two blocks of the call's own
      have k1_ := Aside0.mk ((hb.block _ (blk_lt KB1.out)).trans KB1.out)
      have k2_ := Aside0.mk ((hb.block _ (blk_lt KB2.out)).trans KB2.out)
      have n_ := Aside0.mk (below_then HB.out HB.out.size hb)
      clear KB1 KB2 HB hb
      have KB1 := k1_
      have KB2 := k2_
      have HB := n_
      clear k1_ k2_ n_
      obtain ⟨c0, c1, c2, f0, f1, f2⟩ := spot_cells KB1.out
      obtain ⟨d0, d1, d2, g0, g1, g2⟩ := spot_cells KB2.out
      unfold spotV
      go_wp2
      refine bodyPost_ret (v := .tuple #[.agg #[.string s, .int .i64 (i : Int), .bool true], .string ⟨#[]⟩]) (by simp [results, Tryd.results41, go_sem, d0, d1, d2]) rfl ⟨rfl, spot_below HB.out (Nat.le_succ w.heap.size) s (i : Int) true⟩
    | cons c r =>
      obtain ⟨hlt, _, h3⟩ := bt_cons hd.symm
      have q1 : decide ((s.size : Int) ≤ (i : Int)) = false := decide_eq_false (by omega)
      have q0 : decide (s.size ≤ i) = false := decide_eq_false (by omega)
      have hx : ∀ h : i < s.size, s[i]'h = c := fun h => by
        rw [dropB_cons h] at hd
        injection hd with hd1 _
        exact hd1.symm
      have p1 : (0 : Int) ≤ (i : Int) := by omega
      have p2 : (i : Int) < (s.size : Int) := by omega
      cases hc : isL c with
      | false =>
        have hr : wordL (c :: r) = ([], ⟨c :: r, some (r.length + 1)⟩) := by simp [wordL, hc]
        rw [hr, stV_bad]
        have hii : s.size - (r.length + 1) = i := by simp at hli; omega
        rw [hii]
        show Calls _ _ _ w fun e w' => e = .returned (.tuple #[.agg #[.string s, .int .i64 (i : Int), .bool true], .string ⟨#[]⟩]) ∧ _
        have HC := Aside0.mk hc
        clear hws hr hd hli h3 hc
        go_enter Tryd.func41, Tryd.ntmps41
        -- the first call, its spot stored into block 1
        go_wp2_with fail
        refine (hbl _).mono ?_
        rintro e w1 ⟨rfl, hb⟩
        -- behind a call: the two blocks of the call's own
        have k1_ := Aside0.mk ((hb.block _ (blk_lt KB1.out)).trans KB1.out)
        have k2_ := Aside0.mk ((hb.block _ (blk_lt KB2.out)).trans KB2.out)
        have n_ := Aside0.mk (below_then HB.out HB.out.size hb)
        clear KB1 KB2 HB hb
        have KB1 := k1_
        have KB2 := k2_
        have HB := n_
        clear k1_ k2_ n_
        obtain ⟨c0, c1, c2, f0, f1, f2⟩ := spot_cells KB1.out
        obtain ⟨d0, d1, d2, g0, g1, g2⟩ := spot_cells KB2.out
        go_upto_region 2 with (fail)
        clear c0 c1 c2 f0 f1 f2 d0 d1 d2 g0 g1 g2
        -- block 1 gets a spot
        have k1_ := Aside0.mk (spot_set KB1.out s (i : Int) false)
        have k2_ := Aside0.mk (spot_far KB2.out (show w.heap.size + 1 ≠ w.heap.size by omega) s (i : Int) false)
        have n_ := Aside0.mk (spot_below HB.out (Nat.le_refl w.heap.size) s (i : Int) false)
        clear KB1 KB2 HB
        have KB1 := k1_
        have KB2 := k2_
        have HB := n_
        clear k1_ k2_ n_
        -- the world behind a store of a spot into block 1 gets a name
        generalize (((w1.setCell ⟨w.heap.size, 0, none⟩ (.string s)).setCell ⟨w.heap.size, 1, none⟩ (.int .i64 (i : Int))).setCell ⟨w.heap.size, 2, none⟩ (.bool false)) = w2 at KB1 KB2 HB ⊢
        obtain ⟨c0, c1, c2, f0, f1, f2⟩ := spot_cells KB1.out
        obtain ⟨d0, d1, d2, g0, g1, g2⟩ := spot_cells KB2.out
        go_wp2_with fail
        refine (rletter_calls c _).mono ?_
        rintro e w3 ⟨rfl, rfl⟩
        rw [HC.out]
        go_wp2_with fail
        -- 'return bad(p, j), ""'
        refine (rbad_calls s (i : Int) (i : Int) false _).mono ?_
        rintro e w3 ⟨rfl, hb⟩
        clear c0 c1 c2 f0 f1 f2 d0 d1 d2 g0 g1 g2
        -- behind a call: the two blocks of the call's own
        have k1_ := Aside0.mk ((hb.block _ (blk_lt KB1.out)).trans KB1.out)
        have k2_ := Aside0.mk ((hb.block _ (blk_lt KB2.out)).trans KB2.out)
        have n_ := Aside0.mk (below_then HB.out HB.out.size hb)
        clear KB1 KB2 HB hb
        have KB1 := k1_
        have KB2 := k2_
        have HB := n_
        clear k1_ k2_ n_
        obtain ⟨c0, c1, c2, f0, f1, f2⟩ := spot_cells KB1.out
        obtain ⟨d0, d1, d2, g0, g1, g2⟩ := spot_cells KB2.out
        unfold spotV
        go_wp2
        refine bodyPost_ret (v := .tuple #[.agg #[.string s, .int .i64 (i : Int), .bool true], .string ⟨#[]⟩]) (by simp [results, Tryd.results41, go_sem, d0, d1, d2]) rfl ⟨rfl, spot_below HB.out (Nat.le_succ w.heap.size) s (i : Int) true⟩
      | true =>
        have hr : wordL (c :: r) = (c :: r.takeWhile isA, ⟨r.dropWhile isA, none⟩) := by simp [wordL, hc]
        rw [hr] at hws ⊢
        rw [stV_good]
        simp only at hws
        obtain ⟨z, hz⟩ : ∃ z : Nat, s.size - (r.dropWhile isA).length = z := ⟨_, rfl⟩
        rw [hz] at hws ⊢
        rw [← hws]
        have HC := Aside0.mk hc
        have HZ := Aside0.mk hz
        have H3 := Aside0.mk h3
        clear hws hr hd hli h3 hc hz
        go_enter Tryd.func41, Tryd.ntmps41
        -- the first call, its spot stored into block 1
        go_wp2_with fail
        refine (hbl _).mono ?_
        rintro e w1 ⟨rfl, hb⟩
        -- behind a call: the two blocks of the call's own
        have k1_ := Aside0.mk ((hb.block _ (blk_lt KB1.out)).trans KB1.out)
        have k2_ := Aside0.mk ((hb.block _ (blk_lt KB2.out)).trans KB2.out)
        have n_ := Aside0.mk (below_then HB.out HB.out.size hb)
        clear KB1 KB2 HB hb
        have KB1 := k1_
        have KB2 := k2_
        have HB := n_
        clear k1_ k2_ n_
        obtain ⟨c0, c1, c2, f0, f1, f2⟩ := spot_cells KB1.out
        obtain ⟨d0, d1, d2, g0, g1, g2⟩ := spot_cells KB2.out
        go_upto_region 2 with (fail)
        clear c0 c1 c2 f0 f1 f2 d0 d1 d2 g0 g1 g2
        -- block 1 gets a spot
        have k1_ := Aside0.mk (spot_set KB1.out s (i : Int) false)
        have k2_ := Aside0.mk (spot_far KB2.out (show w.heap.size + 1 ≠ w.heap.size by omega) s (i : Int) false)
        have n_ := Aside0.mk (spot_below HB.out (Nat.le_refl w.heap.size) s (i : Int) false)
        clear KB1 KB2 HB
        have KB1 := k1_
        have KB2 := k2_
        have HB := n_
        clear k1_ k2_ n_
        -- the world behind a store of a spot into block 1 gets a name
        generalize (((w1.setCell ⟨w.heap.size, 0, none⟩ (.string s)).setCell ⟨w.heap.size, 1, none⟩ (.int .i64 (i : Int))).setCell ⟨w.heap.size, 2, none⟩ (.bool false)) = w2 at KB1 KB2 HB ⊢
        obtain ⟨c0, c1, c2, f0, f1, f2⟩ := spot_cells KB1.out
        obtain ⟨d0, d1, d2, g0, g1, g2⟩ := spot_cells KB2.out
        go_wp2_with fail
        refine (rletter_calls c _).mono ?_
        rintro e w3 ⟨rfl, rfl⟩
        rw [HC.out]
        go_wp2_with fail
        go_loopg [4] (s.size + 1) (fun k t wr => ∃ j : Nat, Aside0 (j ≤ s.size ∧ i < j ∧ (dropB s j).dropWhile isA = (dropB s (i + 1)).dropWhile isA ∧ s.size - j < k) ∧ t = .int .i64 (j : Int) ∧ wr = w2)
        case atStart => exact ⟨i + 1, ⟨by omega, by omega, rfl, by omega⟩, rfl, rfl⟩
        case round =>
          obtain ⟨j, HM, rfl, rfl⟩ := hrel
          by_cases hj : j < s.size
          · obtain ⟨c2, hc2⟩ : ∃ c, s[j]'hj = c := ⟨_, rfl⟩
            have hdc := dropB_cons hj
            rw [hc2] at hdc
            have HD := Aside0.mk hdc
            clear hdc
            have hx2 : ∀ h : j < s.size, s[j]'h = c2 := fun _ => hc2
            clear hc2
            have p3 : (0 : Int) ≤ (j : Int) := by omega
            have p4 : (j : Int) < (s.size : Int) := by omega
            clear hx p1 p2
            cases hl : isL c2 with
            | true =>
              go_wp2_with fail
              refine (rletter_calls c2 _).mono ?_
              rintro e w3 ⟨rfl, rfl⟩
              rw [hl]
              go_wp2_with fail
              go_roundg (gk - 1)
              case measure => have := HM.out; omega
              case rel => exact ⟨j + 1, ⟨by omega, by have := HM.out; omega, by have := HM.out; rw [← this.2.2.1, HD.out, List.dropWhile_cons, if_pos (by simp [isA, hl])], by have := HM.out; omega⟩, rfl, rfl⟩
            | false =>
              go_wp2_with fail
              refine (rletter_calls c2 _).mono ?_
              rintro e w3 ⟨rfl, rfl⟩
              rw [hl]
              go_wp2_with fail
              refine (rdigit_calls c2 _).mono ?_
              rintro e w3 ⟨rfl, rfl⟩
              cases hdg : isD c2 with
              | true =>
                go_wp2_with fail
                go_roundg (gk - 1)
                case measure => have := HM.out; omega
                case rel => exact ⟨j + 1, ⟨by omega, by have := HM.out; omega, by have := HM.out; rw [← this.2.2.1, HD.out, List.dropWhile_cons, if_pos (by simp [isA, hdg])], by have := HM.out; omega⟩, rfl, rfl⟩
              | false =>
                have hjz : j = z := by
                  have h1 := HM.out.2.2.1
                  rw [HD.out, List.dropWhile_cons, if_neg (by simp [isA, hl, hdg]), H3.out] at h1
                  have h2 := HZ.out
                  rw [← h1, ← HD.out, dropB_len] at h2
                  omega
                subst hjz
                have p5 : (i : Int) ≤ (j : Int) := by have := HM.out; omega
                have p6 : (0 : Int) ≤ (i : Int) := by omega
                have p7 : (j : Int) ≤ (s.size : Int) := by omega
                go_wp2
                refine bodyPost_ret (v := .tuple #[.agg #[.string s, .int .i64 (j : Int), .bool false], .string (s.extract i j)]) (by simp [results, Tryd.results41, go_sem, d0, d1, d2]) rfl ⟨rfl, spot_below (HB.out.setCell (p := ⟨w.heap.size, 1, none⟩) (Nat.le_refl w.heap.size) _) (Nat.le_succ w.heap.size) s (j : Int) false⟩
          · have hje : j = s.size := by have := HM.out; omega
            have hjz : j = z := by
              have h1 := HM.out.2.2.1
              rw [dropB_nil (by omega), H3.out] at h1
              have h2 := HZ.out
              rw [← h1] at h2
              simp at h2
              omega
            subst hjz
            have p3 : decide ((j : Int) < (s.size : Int)) = false := decide_eq_false (by omega)
            have p5 : (i : Int) ≤ (j : Int) := by have := HM.out; omega
            have p6 : (0 : Int) ≤ (i : Int) := by omega
            have p7 : (j : Int) ≤ (s.size : Int) := by omega
            clear hje
            go_wp2
            refine bodyPost_ret (v := .tuple #[.agg #[.string s, .int .i64 (j : Int), .bool false], .string (s.extract i j)]) (by simp [results, Tryd.results41, go_sem, d0, d1, d2]) rfl ⟨rfl, spot_below (HB.out.setCell (p := ⟨w.heap.size, 1, none⟩) (Nat.le_refl w.heap.size) _) (Nat.le_succ w.heap.size) s (j : Int) false⟩
end Go.Proofs.YthaapijjjgkacaaDoor.Mine
