/-
  The reference's parser of filters, walked: mark, word. Conditions: the text at most 1000 bytes.
-/
import Derived.Test.YthaapijjjgkacaaDoorRef
set_option linter.unusedSimpArgs false
set_option linter.unusedVariables false
namespace Go.Proofs.YthaapijjjgkacaaDoor.Mine
open Go.RowKit Go.Proofs.YthaapijjjgkacaaDoorW.PrintWords Go.Proofs.YthaapijjjgkacaaDoorW.PrintLast Go.Proofs.YthaapijjjgkacaaDoorW.PrintMore
open Go.Proofs.YthaapijjjgkacaaDoor.PFilterReads
theorem spot_cells {w : World} {g : Nat} {s : ByteArray} {i : Int} {b : Bool} (h : w.heap[g]? = some (spotC s i b)) :
    w.cell? ⟨g, 0, none⟩ = some (.string s) ∧ w.cell? ⟨g, 1, none⟩ = some (.int .i64 i) ∧ w.cell? ⟨g, 2, none⟩ = some (.bool b) ∧ w.frozen? ⟨g, 0, none⟩ = false ∧ w.frozen? ⟨g, 1, none⟩ = false ∧ w.frozen? ⟨g, 2, none⟩ = false :=
  ⟨(blk_cell h 0).trans rfl, (blk_cell h 1).trans rfl, (blk_cell h 2).trans rfl, blk_frozen h 0, blk_frozen h 1, blk_frozen h 2⟩
theorem spot_new (w : World) (s s' : ByteArray) (i i' : Int) (b b' : Bool) :
    ((w.alloc (.cells #[.string s, .int .i64 i, .bool b] 83)).alloc (.cells #[.string s', .int .i64 i', .bool b'] 83)).heap[w.heap.size]? = some (spotC s i b) ∧
    ((w.alloc (.cells #[.string s, .int .i64 i, .bool b] 83)).alloc (.cells #[.string s', .int .i64 i', .bool b'] 83)).heap[w.heap.size + 1]? = some (spotC s' i' b') := by
  constructor
  · show ((w.heap.push _).push _)[_]? = _
    simp only [Array.getElem?_push, Array.size_push]
    rw [if_neg (by omega), if_pos trivial]
    rfl
  · show ((w.heap.push _).push _)[_]? = _
    simp only [Array.getElem?_push, Array.size_push]
    rw [if_pos trivial]
    rfl
theorem stV_bad (s : ByteArray) (l : List UInt8) (n : Nat) : stV s ⟨l, some n⟩ = .agg #[.string s, .int .i64 ((s.size - n : Nat) : Int), .bool true] := rfl
theorem stV_good (s : ByteArray) (l : List UInt8) : stV s ⟨l, none⟩ = .agg #[.string s, .int .i64 ((s.size - l.length : Nat) : Int), .bool false] := rfl
theorem spot_set {w : World} {g : Nat} {s0 : ByteArray} {i0 : Int} {b0 : Bool} (h : w.heap[g]? = some (spotC s0 i0 b0)) (s : ByteArray) (i : Int) (b : Bool) :
    (((w.setCell ⟨g, 0, none⟩ (.string s)).setCell ⟨g, 1, none⟩ (.int .i64 i)).setCell ⟨g, 2, none⟩ (.bool b)).heap[g]? = some (spotC s i b) := by
  have := blk_set (blk_set (blk_set h 0 (.string s)) 1 (.int .i64 i)) 2 (.bool b)
  simpa [spotC] using this
theorem spot_far {w : World} {g g2 : Nat} {o : Obj} (h : w.heap[g]? = some o) (hne : g ≠ g2) (s : ByteArray) (i : Int) (b : Bool) :
    (((w.setCell ⟨g2, 0, none⟩ (.string s)).setCell ⟨g2, 1, none⟩ (.int .i64 i)).setCell ⟨g2, 2, none⟩ (.bool b)).heap[g]? = some o := by
  rw [Below.heap_setCell _ _ _ _ hne, Below.heap_setCell _ _ _ _ hne, Below.heap_setCell _ _ _ _ hne]
  exact h
theorem spot_below {B : Nat} {w W : World} {g : Nat} (h : Below B w W) (hg : B ≤ g) (s : ByteArray) (i : Int) (b : Bool) :
    Below B w (((W.setCell ⟨g, 0, none⟩ (.string s)).setCell ⟨g, 1, none⟩ (.int .i64 i)).setCell ⟨g, 2, none⟩ (.bool b)) :=
  ((h.setCell hg _).setCell hg _).setCell hg _
set_option maxHeartbeats 1000000 in
set_option maxRecDepth 100000 in
theorem rmark_calls (s m : ByteArray) (st : St) (w : World) (hs : s.size ≤ 1000) (hm : m.size ≤ 1000) (hok : st.ok (bytes s)) :
    Calls Tryd.prog 68 #[stV s st, .string m] w fun e w' => e = .returned (stV s (markS (bytes m) st)) ∧ Below w.heap.size w w' := by
  have hok1 := blanksS_ok hok
  have hbl := fun w => rblanks_calls s st w hs hok
  obtain ⟨l, bad⟩ := st
  cases bad with
  | some n =>
    rw [markS_bad rfl]
    rw [blanksS_bad rfl] at hbl
    rw [stV_bad] at hbl ⊢
    generalize ((s.size - n : Nat) : Int) = i at hbl ⊢
    -- the two blocks of the call's own, at its beginning
    obtain ⟨hn1, hn2⟩ := spot_new w s ⟨#[]⟩ i 0 true false
    have KB1 := Aside0.mk hn1
    have KB2 := Aside0.mk hn2
    have HB := Aside0.mk (below_alloc (below_alloc (Below.refl w.heap.size w) (.cells #[.string s, .int .i64 i, .bool true] 83)) (.cells #[.string ⟨#[]⟩, .int .i64 0, .bool false] 83))
    clear hn1 hn2
    go_enter Tryd.func68, Tryd.ntmps68
    go_wp2_with fail
    refine (hbl _).mono ?_
    rintro e w1 ⟨rfl, hb⟩
    -- behind a call: the two blocks of the call's own
    have k1_ := Aside0.mk ((hb.block _ (blk_lt KB1.out)).trans KB1.out)
    have k2_ := Aside0.mk ((hb.block _ (blk_lt KB2.out)).trans KB2.out)
    have n_ := Aside0.mk (below_then HB.out HB.out.size hb)
    clear KB1 KB2 HB hb
    have KB1 := k1_
    have KB2 := k2_
    have HB := n_
    clear k1_ k2_ n_
    obtain ⟨c0, c1, c2, f0, f1, f2⟩ := spot_cells KB1.out
    obtain ⟨d0, d1, d2, g0, g1, g2⟩ := spot_cells KB2.out
    go_wp2_with fail
    refine (rbad_calls s i i true _).mono ?_
    rintro e w2 ⟨rfl, hb⟩
    clear c0 c1 c2 f0 f1 f2 d0 d1 d2 g0 g1 g2
    -- block 1 gets a spot
    have k1_ := Aside0.mk (spot_set KB1.out s i true)
    have k2_ := Aside0.mk (spot_far KB2.out (show w.heap.size + 1 ≠ w.heap.size by omega) s i true)
    have n_ := Aside0.mk (spot_below HB.out (Nat.le_refl w.heap.size) s i true)
    clear KB1 KB2 HB
    have KB1 := k1_
    have KB2 := k2_
    have HB := n_
    clear k1_ k2_ n_
    -- behind a call: the two blocks of the call's own
    have k1_ := Aside0.mk ((hb.block _ (blk_lt KB1.out)).trans KB1.out)
    have k2_ := Aside0.mk ((hb.block _ (blk_lt KB2.out)).trans KB2.out)
    have n_ := Aside0.mk (below_then HB.out HB.out.size hb)
    clear KB1 KB2 HB hb
    have KB1 := k1_
    have KB2 := k2_
    have HB := n_
    clear k1_ k2_ n_
    obtain ⟨c0, c1, c2, f0, f1, f2⟩ := spot_cells KB1.out
    obtain ⟨d0, d1, d2, g0, g1, g2⟩ := spot_cells KB2.out
    unfold spotV
    go_wp2
    refine bodyPost_ret (v := .agg #[.string s, .int .i64 i, .bool true]) (by simp [results, Tryd.results68, go_sem, d0, d1, d2]) rfl ⟨rfl, spot_below HB.out (Nat.le_succ w.heap.size) s i true⟩
  | none =>
    rw [stV_good] at hbl ⊢
    have e1 : blanksS ⟨l, none⟩ = ⟨skip l, none⟩ := rfl
    have e2 : markS (bytes m) ⟨l, none⟩ = markL (bytes m) (skip l) := rfl
    rw [e1] at hbl hok1
    rw [stV_good] at hbl
    rw [e2]
    have hle := P_le hok1
    have hsuf : skip l <:+ bytes s := hok1.1
    have hd := suf_drop hsuf
    simp only at hle
    generalize skip l = L at hbl hle hd ⊢
    generalize ((s.size - l.length : Nat) : Int) = i0 at hbl ⊢
    have hml : (bytes m).length = m.size := bytes_len m
    obtain ⟨i, hi⟩ : ∃ i, s.size - L.length = i := ⟨_, rfl⟩
    rw [hi] at hbl hd
    have hiz : i ≤ s.size := by omega
    have hli : L.length = s.size - i := by omega
    clear hok hok1 hsuf hi
    -- the two blocks of the call's own, at its beginning
    obtain ⟨hn1, hn2⟩ := spot_new w s ⟨#[]⟩ i0 0 false false
    have KB1 := Aside0.mk hn1
    have KB2 := Aside0.mk hn2
    have HB := Aside0.mk (below_alloc (below_alloc (Below.refl w.heap.size w) (.cells #[.string s, .int .i64 i0, .bool false] 83)) (.cells #[.string ⟨#[]⟩, .int .i64 0, .bool false] 83))
    clear hn1 hn2
    by_cases h1 : s.size - i < m.size
    · have hp : (bytes m).isPrefixOf L = false := by
        rw [Bool.eq_false_iff]
        intro hp
        have := (List.isPrefixOf_iff_prefix.mp hp).length_le
        omega
      have hr : stV s (markL (bytes m) L) = .agg #[.string s, .int .i64 (i : Int), .bool true] := by
        unfold markL
        rw [hp, if_neg (by simp), stV_bad, show s.size - L.length = i by omega]
      rw [hr]
      have q1 : decide ((s.size : Int) - (i : Int) < (m.size : Int)) = true := decide_eq_true (by omega)
      clear hp hr hml hd
      go_enter Tryd.func68, Tryd.ntmps68
      go_wp2_with fail
      refine (hbl _).mono ?_
      rintro e w1 ⟨rfl, hb⟩
      -- behind a call: the two blocks of the call's own
      have k1_ := Aside0.mk ((hb.block _ (blk_lt KB1.out)).trans KB1.out)
      have k2_ := Aside0.mk ((hb.block _ (blk_lt KB2.out)).trans KB2.out)
      have n_ := Aside0.mk (below_then HB.out HB.out.size hb)
      clear KB1 KB2 HB hb
      have KB1 := k1_
      have KB2 := k2_
      have HB := n_
      clear k1_ k2_ n_
      obtain ⟨c0, c1, c2, f0, f1, f2⟩ := spot_cells KB1.out
      obtain ⟨d0, d1, d2, g0, g1, g2⟩ := spot_cells KB2.out
      go_wp2_with fail
      refine (rbad_calls s (i : Int) (i : Int) false _).mono ?_
      rintro e w2 ⟨rfl, hb⟩
      clear c0 c1 c2 f0 f1 f2 d0 d1 d2 g0 g1 g2
      -- block 1 gets a spot
      have k1_ := Aside0.mk (spot_set KB1.out s (i : Int) false)
      have k2_ := Aside0.mk (spot_far KB2.out (show w.heap.size + 1 ≠ w.heap.size by omega) s (i : Int) false)
      have n_ := Aside0.mk (spot_below HB.out (Nat.le_refl w.heap.size) s (i : Int) false)
      clear KB1 KB2 HB
      have KB1 := k1_
      have KB2 := k2_
      have HB := n_
      clear k1_ k2_ n_
      -- behind a call: the two blocks of the call's own
      have k1_ := Aside0.mk ((hb.block _ (blk_lt KB1.out)).trans KB1.out)
      have k2_ := Aside0.mk ((hb.block _ (blk_lt KB2.out)).trans KB2.out)
      have n_ := Aside0.mk (below_then HB.out HB.out.size hb)
      clear KB1 KB2 HB hb
      have KB1 := k1_
      have KB2 := k2_
      have HB := n_
      clear k1_ k2_ n_
      obtain ⟨c0, c1, c2, f0, f1, f2⟩ := spot_cells KB1.out
      obtain ⟨d0, d1, d2, g0, g1, g2⟩ := spot_cells KB2.out
      unfold spotV
      go_wp2
      refine bodyPost_ret (v := .agg #[.string s, .int .i64 (i : Int), .bool true]) (by simp [results, Tryd.results68, go_sem, d0, d1, d2]) rfl ⟨rfl, spot_below HB.out (Nat.le_succ w.heap.size) s (i : Int) true⟩
    · have he : (s.extract i (i + m.size)).toList = L.take m.size := by
        rw [Lib.extract_toList, show i + m.size - i = m.size by omega]
        exact congrArg _ hd.symm
      have q1 : decide ((s.size : Int) - (i : Int) < (m.size : Int)) = false := decide_eq_false (by omega)
      have hp0 : (bytes m).isPrefixOf L = true ↔ L.take m.size = m.data.toList := by
        rw [List.isPrefixOf_iff_prefix, List.prefix_iff_eq_take, hml]
        exact ⟨fun h => h.symm, fun h => h.symm⟩
      have z1 : (0 : Int) ≤ (i : Int) := by omega
      have z2 : (i : Int) ≤ (i : Int) + (m.size : Int) := by omega
      have z3 : (i : Int) + (m.size : Int) ≤ (s.size : Int) := by omega
      have z4 : ((i : Int) + (m.size : Int)).toNat = i + m.size := by omega
      have z5 : (i : Int).toNat = i := by omega
      rw [← Lib.toList_data] at hp0
      by_cases h2 : L.take m.size = m.toList
      · have hp : (bytes m).isPrefixOf L = true := hp0.mpr h2
        have hr : stV s (markL (bytes m) L) = .agg #[.string s, .int .i64 ((i : Int) + (m.size : Int)), .bool false] := by
          unfold markL
          rw [hp, if_pos rfl, stV_good, show ((s.size - (L.drop (bytes m).length).length : Nat) : Int) = (i : Int) + (m.size : Int) by rw [List.length_drop, hml]; omega]
        rw [hr]
        rw [h2] at he
        clear hp hp0 hr hml hd h2
        go_enter Tryd.func68, Tryd.ntmps68
        go_wp2_with fail
        refine (hbl _).mono ?_
        rintro e w1 ⟨rfl, hb⟩
        -- behind a call: the two blocks of the call's own
        have k1_ := Aside0.mk ((hb.block _ (blk_lt KB1.out)).trans KB1.out)
        have k2_ := Aside0.mk ((hb.block _ (blk_lt KB2.out)).trans KB2.out)
        have n_ := Aside0.mk (below_then HB.out HB.out.size hb)
        clear KB1 KB2 HB hb
        have KB1 := k1_
        have KB2 := k2_
        have HB := n_
        clear k1_ k2_ n_
        obtain ⟨c0, c1, c2, f0, f1, f2⟩ := spot_cells KB1.out
        obtain ⟨d0, d1, d2, g0, g1, g2⟩ := spot_cells KB2.out
        go_upto_region 2 with (fail)
        clear c0 c1 c2 f0 f1 f2 d0 d1 d2 g0 g1 g2
        -- block 1 gets a spot
        have k1_ := Aside0.mk (spot_set KB1.out s (i : Int) false)
        have k2_ := Aside0.mk (spot_far KB2.out (show w.heap.size + 1 ≠ w.heap.size by omega) s (i : Int) false)
        have n_ := Aside0.mk (spot_below HB.out (Nat.le_refl w.heap.size) s (i : Int) false)
        clear KB1 KB2 HB
        have KB1 := k1_
        have KB2 := k2_
        have HB := n_
        clear k1_ k2_ n_
        -- the world behind a store of a spot into block 1 gets a name
        generalize (((w1.setCell ⟨w.heap.size, 0, none⟩ (.string s)).setCell ⟨w.heap.size, 1, none⟩ (.int .i64 (i : Int))).setCell ⟨w.heap.size, 2, none⟩ (.bool false)) = w2 at KB1 KB2 HB ⊢
        obtain ⟨c0, c1, c2, f0, f1, f2⟩ := spot_cells KB1.out
        obtain ⟨d0, d1, d2, g0, g1, g2⟩ := spot_cells KB2.out
        go_wp2_with fail
        refine bodyPost_ret (v := .agg #[.string s, .int .i64 ((i : Int) + (m.size : Int)), .bool false]) (by simp [results, Tryd.results68, go_sem, d0, d1, d2]) rfl ⟨rfl, spot_below (HB.out.setCell (p := ⟨w.heap.size, 1, none⟩) (Nat.le_refl w.heap.size) _) (Nat.le_succ w.heap.size) s ((i : Int) + (m.size : Int)) false⟩
      · have hp : (bytes m).isPrefixOf L = false := by
          rw [Bool.eq_false_iff]
          exact fun h => h2 (hp0.mp h)
        have hr : stV s (markL (bytes m) L) = .agg #[.string s, .int .i64 (i : Int), .bool true] := by
          unfold markL
          rw [hp, if_neg (by simp), stV_bad, show s.size - L.length = i by omega]
        rw [hr]
        have q2 : (L.take m.size == m.toList) = false := by simpa using h2
        generalize L.take m.size = L2 at he q2
        clear hp hp0 hr hml hd h2
        go_enter Tryd.func68, Tryd.ntmps68
        go_wp2_with fail
        refine (hbl _).mono ?_
        rintro e w1 ⟨rfl, hb⟩
        -- behind a call: the two blocks of the call's own
        have k1_ := Aside0.mk ((hb.block _ (blk_lt KB1.out)).trans KB1.out)
        have k2_ := Aside0.mk ((hb.block _ (blk_lt KB2.out)).trans KB2.out)
        have n_ := Aside0.mk (below_then HB.out HB.out.size hb)
        clear KB1 KB2 HB hb
        have KB1 := k1_
        have KB2 := k2_
        have HB := n_
        clear k1_ k2_ n_
        obtain ⟨c0, c1, c2, f0, f1, f2⟩ := spot_cells KB1.out
        obtain ⟨d0, d1, d2, g0, g1, g2⟩ := spot_cells KB2.out
        go_upto_region 2 with (fail)
        clear c0 c1 c2 f0 f1 f2 d0 d1 d2 g0 g1 g2
        -- block 1 gets a spot
        have k1_ := Aside0.mk (spot_set KB1.out s (i : Int) false)
        have k2_ := Aside0.mk (spot_far KB2.out (show w.heap.size + 1 ≠ w.heap.size by omega) s (i : Int) false)
        have n_ := Aside0.mk (spot_below HB.out (Nat.le_refl w.heap.size) s (i : Int) false)
        clear KB1 KB2 HB
        have KB1 := k1_
        have KB2 := k2_
        have HB := n_
        clear k1_ k2_ n_
        -- the world behind a store of a spot into block 1 gets a name
        generalize (((w1.setCell ⟨w.heap.size, 0, none⟩ (.string s)).setCell ⟨w.heap.size, 1, none⟩ (.int .i64 (i : Int))).setCell ⟨w.heap.size, 2, none⟩ (.bool false)) = w2 at KB1 KB2 HB ⊢
        obtain ⟨c0, c1, c2, f0, f1, f2⟩ := spot_cells KB1.out
        obtain ⟨d0, d1, d2, g0, g1, g2⟩ := spot_cells KB2.out
        go_wp2_with fail
        -- 'return bad(p, j)'
        refine (rbad_calls s (i : Int) (i : Int) false _).mono ?_
        rintro e w3 ⟨rfl, hb⟩
        clear c0 c1 c2 f0 f1 f2 d0 d1 d2 g0 g1 g2
        -- behind a call: the two blocks of the call's own
        have k1_ := Aside0.mk ((hb.block _ (blk_lt KB1.out)).trans KB1.out)
        have k2_ := Aside0.mk ((hb.block _ (blk_lt KB2.out)).trans KB2.out)
        have n_ := Aside0.mk (below_then HB.out HB.out.size hb)
        clear KB1 KB2 HB hb
        have KB1 := k1_
        have KB2 := k2_
        have HB := n_
        clear k1_ k2_ n_
        obtain ⟨c0, c1, c2, f0, f1, f2⟩ := spot_cells KB1.out
        obtain ⟨d0, d1, d2, g0, g1, g2⟩ := spot_cells KB2.out
        unfold spotV
        go_wp2
        refine bodyPost_ret (v := .agg #[.string s, .int .i64 (i : Int), .bool true]) (by simp [results, Tryd.results68, go_sem, d0, d1, d2]) rfl ⟨rfl, spot_below HB.out (Nat.le_succ w.heap.size) s (i : Int) true⟩
end Go.Proofs.YthaapijjjgkacaaDoor.Mine
