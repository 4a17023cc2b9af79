/- Texts of one claim, one behind the other, made short by a program. -/
import Derived.Test.YtlokmijoaocofaaGreatDoorMP20
set_option linter.unusedSimpArgs false
set_option linter.unusedVariables false
section
namespace Go.Proofs.YtlokmijoaocofaaGreatDoor.Mine
open Go.RowKit YtlokmijoaocofaaGreatDoorW.PrintWords YtlokmijoaocofaaGreatDoorW.PrintLast YtlokmijoaocofaaGreatDoorW.PrintMore
open PBoardPlays
def prC (nm : ByteArray) (op lo hi : Int) (t : ByteArray) : Obj := .cells #[.string nm, .int .i64 op, .int .i64 lo, .int .i64 hi, .string t] 158 (0, 0)
theorem prc_cells {w : World} {g : Nat} {nm t : ByteArray} {op lo hi : Int} (h : w.heap[g]? = some (prC nm op lo hi t)) :
 w.cell? ⟨g, 0, none⟩ = some (.string nm) ∧ w.cell? ⟨g, 1, none⟩ = some (.int .i64 op) ∧ w.cell? ⟨g, 2, none⟩ = some (.int .i64 lo) ∧ w.cell? ⟨g, 3, none⟩ = some (.int .i64 hi) ∧ w.cell? ⟨g, 4, none⟩ = some (.string t) ∧
 w.frozen? ⟨g, 0, none⟩ = false ∧ w.frozen? ⟨g, 1, none⟩ = false ∧ w.frozen? ⟨g, 2, none⟩ = false ∧ w.frozen? ⟨g, 3, none⟩ = false ∧ w.frozen? ⟨g, 4, none⟩ = false :=
 ⟨(blk_cell h 0).trans rfl, (blk_cell h 1).trans rfl, (blk_cell h 2).trans rfl, (blk_cell h 3).trans rfl, (blk_cell h 4).trans rfl, blk_frozen h 0, blk_frozen h 1, blk_frozen h 2, blk_frozen h 3, blk_frozen h 4⟩
theorem heap_push3 {α : Type} (h : Array α) (a b c : α) : (((h.push a).push b).push c)[h.size]? = some a ∧ (((h.push a).push b).push c)[h.size + 1]? = some b ∧ (((h.push a).push b).push c)[h.size + 2]? = some c := by
 refine ⟨?_, ?_, ?_⟩
 ·
  simp only [Array.getElem?_push, Array.size_push]; rw [if_neg (by omega), if_neg (by omega), if_pos trivial]
 ·
  simp only [Array.getElem?_push, Array.size_push]; rw [if_neg (by omega), if_pos trivial]
 ·
  simp only [Array.getElem?_push, Array.size_push]; rw [if_pos trivial]
theorem pr_below {B : Nat} {w W : World} {g g2 : Nat} (h : Below B w W) (hg : B ≤ g) (hg2 : B ≤ g2) (s : ByteArray) (i : Int) (b : Bool) (v0 v1 v2 v3 v4 : Value) :
 Below B w ((((((((W.setCell ⟨g, 0, none⟩ (.string s)).setCell ⟨g, 1, none⟩ (.int .i64 i)).setCell ⟨g, 2, none⟩ (.bool b)).setCell ⟨g2, 0, none⟩ v0).setCell ⟨g2, 1, none⟩ v1).setCell ⟨g2, 2, none⟩ v2).setCell ⟨g2, 3, none⟩ v3).setCell ⟨g2, 4, none⟩ v4) :=
 (((((spot_below h hg s i b).setCell hg2 _).setCell hg2 _).setCell hg2 _).setCell hg2 _).setCell hg2 _
theorem predS_bad {st : St} {n : Nat} (h : (blanksS (wordS st).2).bad = some n) : (predS st).2 = blanksS (wordS st).2 := by
 unfold predS
 simp only []
 split
 ·
  rw [markS_bad h, textS_bad h]
 ·
  split
  ·
   rw [markS_bad h, textS_bad h]
  ·
   unfold inS
   rw [wordS_bad h]
   simp only []
   rw [if_neg (by simp), stopS_bad h, numberS_bad h, markS_bad h, numberS_bad h]
theorem predS_of {st : St} {L : List UInt8} (h : blanksS (wordS st).2 = ⟨L, none⟩) : predS st = (if L.head? = some 61 then (⟨(wordS st).1, 2, 0, 0, (textS (markS [61] ⟨L, none⟩)).1⟩, (textS (markS [61] ⟨L, none⟩)).2) else if L.head? = some 94 then (⟨(wordS st).1, 3, 0, 0, (textS (markS [94, 61] ⟨L, none⟩)).1⟩, (textS (markS [94, 61] ⟨L, none⟩)).2) else inS (wordS st).1 ⟨L, none⟩) := by
 unfold predS
 simp only [h]
theorem wordS_nil {st : St} {n : Nat} (h : (wordS st).2.bad = some n) : (wordS st).1 = [] := by
 unfold wordS at h ⊢
 split
 ·
  rfl
 ·
  rename_i hb
  rw [hb] at h
  simp only at h
  generalize skip st.l = l at h
  cases l with
  | nil => rfl
  | cons c r =>
   cases hc : isL c with
   | true => simp [wordL, hc] at h
   | false => simp [wordL, hc]
theorem pr_far {w : World} {g g2 : Nat} {o : Obj} (h : w.heap[g]? = some o) (hne : g ≠ g2) (v0 v1 v2 v3 v4 : Value) :
 (((((w.setCell ⟨g2, 0, none⟩ v0).setCell ⟨g2, 1, none⟩ v1).setCell ⟨g2, 2, none⟩ v2).setCell ⟨g2, 3, none⟩ v3).setCell ⟨g2, 4, none⟩ v4).heap[g]? = some o := by
 rw [Below.heap_setCell _ _ _ _ hne, Below.heap_setCell _ _ _ _ hne, Below.heap_setCell _ _ _ _ hne, Below.heap_setCell _ _ _ _ hne, Below.heap_setCell _ _ _ _ hne]
 exact h
theorem pr_set {w : World} {g : Nat} {nm0 t0 : ByteArray} {op0 lo0 hi0 : Int} (h : w.heap[g]? = some (prC nm0 op0 lo0 hi0 t0)) (nm t : ByteArray) (op lo hi : Int) :
 (((((w.setCell ⟨g, 0, none⟩ (.string nm)).setCell ⟨g, 1, none⟩ (.int .i64 op)).setCell ⟨g, 2, none⟩ (.int .i64 lo)).setCell ⟨g, 3, none⟩ (.int .i64 hi)).setCell ⟨g, 4, none⟩ (.string t)).heap[g]? = some (prC nm op lo hi t) := by
 have := blk_set (blk_set (blk_set (blk_set (blk_set h 0 (.string nm)) 1 (.int .i64 op)) 2 (.int .i64 lo)) 3 (.int .i64 hi)) 4 (.string t)
 simpa [prC] using this
theorem prv_below {B : Nat} {w W : World} {g2 : Nat} (h : Below B w W) (hg2 : B ≤ g2) (v0 v1 v2 v3 v4 : Value) :
 Below B w (((((W.setCell ⟨g2, 0, none⟩ v0).setCell ⟨g2, 1, none⟩ v1).setCell ⟨g2, 2, none⟩ v2).setCell ⟨g2, 3, none⟩ v3).setCell ⟨g2, 4, none⟩ v4) :=
 ((((h.setCell hg2 _).setCell hg2 _).setCell hg2 _).setCell hg2 _).setCell hg2 _
theorem rbad_agg (s : ByteArray) (i j : Int) (w : World) :
 Calls Tryz.prog 101 #[.agg #[.string s, .int .i64 i, .bool false], .int .i64 j] w fun e w' => e = .returned (.agg #[.string s, .int .i64 j, .bool true]) ∧ Below w.heap.size w w' := rbad_calls s i j false w
def predPost (s : ByteArray) (st : St) (v : Value) : Prop := ∃ x : Pr, v = .tuple #[stV s (predS st).2, prV x] ∧ ((predS st).2.bad = none → x = (predS st).1)
theorem in_post {s : ByteArray} {st : St} {L0 : List UInt8} {a : List UInt8 × St} {q1 q2 : Int × St} {sm : St} {i5 v1 v2 : Int} {b5 : Bool} {nm : ByteArray} (HP : predS st = inS (wordS st).1 ⟨L0, none⟩) (HA : wordS ⟨L0, none⟩ = a)
 (HBE : (if a.1 = [105, 110] then a.2 else stopS a.2 L0.length) = a.2) (hq1 : numberS a.2 = q1) (hsm : markS [46, 46] q1.2 = sm) (hq2 : numberS sm = q2)
 (h5 : stV s q2.2 = .agg #[.string s, .int .i64 i5, .bool b5]) (hv1 : v1 = (if q1.2.bad.isSome then 0 else q1.1)) (hv2 : v2 = (if q2.2.bad.isSome then 0 else q2.1)) (hnm : (⟨(wordS st).1.toArray⟩ : ByteArray) = nm) :
 predPost s st (.tuple #[.agg #[.string s, .int .i64 i5, .bool b5], .agg #[.string nm, .int .i64 1, .int .i64 v1, .int .i64 v2, .string ⟨#[]⟩]]) := by
 have e : inS (wordS st).1 ⟨L0, none⟩ = (⟨(wordS st).1, 1, q1.1, q2.1, []⟩, q2.2) := by
  unfold inS
  simp only [HA, HBE, hq1, hsm, hq2]
 rw [e] at HP
 refine ⟨⟨(wordS st).1, 1, v1, v2, []⟩, ?_, fun h => ?_⟩
 ·
  rw [HP]
  show _ = Value.tuple #[stV s q2.2, prV _]
  rw [h5, ← hnm]
  rfl
 ·
  rw [HP] at h ⊢
  simp only at h ⊢
  have h2 : sm.bad = none := numberS_good (by rw [hq2]; exact h)
  have h1 : q1.2.bad = none := markS_good (by rw [hsm]; exact h2)
  rw [h] at hv2
  rw [h1] at hv1
  simp at hv1 hv2
  rw [hv1, hv2]
set_option maxHeartbeats 4000000 in
set_option maxRecDepth 100000 in
theorem rpred_calls (s : ByteArray) (st : St) (w : World) (hs : s.size ≤ 1000) (hok : st.ok (bytes s)) :
 Calls Tryz.prog 73 #[stV s st] w fun e w' => ∃ v, e = .returned v ∧ predPost s st v ∧ Below w.heap.size w w' := by
 have hwd := fun w => rword_calls s st w hs hok
 have hokw := wordS_ok hok
 have hbl := fun w => rblanks_calls s (wordS st).2 w hs hokw
 have hokb := blanksS_ok hokw
 obtain ⟨i0, hi0⟩ : ∃ x, x = spI s st := ⟨_, rfl⟩
 obtain ⟨b0, hb0⟩ : ∃ x, x = st.bad.isSome := ⟨_, rfl⟩
 have hst : stV s st = .agg #[.string s, .int .i64 i0, .bool b0] := by rw [hi0, hb0]; rfl
 obtain ⟨i1, hi1⟩ : ∃ x, x = spI s (wordS st).2 := ⟨_, rfl⟩
 obtain ⟨b1, hb1⟩ : ∃ x, x = (wordS st).2.bad.isSome := ⟨_, rfl⟩
 have hst1 : stV s (wordS st).2 = .agg #[.string s, .int .i64 i1, .bool b1] := by rw [hi1, hb1]; rfl
 rw [hst, hst1] at hwd
 rw [hst1] at hbl
 rw [hst]
 clear hi0 hb0 hi1 hb1
 obtain ⟨hn1, hn2, hn3⟩ := heap_push3 w.heap (.cells #[.string s, .int .i64 i0, .bool b0] 177 (0, 0)) (.cells #[.string ⟨#[]⟩, .int .i64 0, .bool false] 177 (0, 0)) (.cells #[.string ⟨#[]⟩, .int .i64 0, .int .i64 0, .int .i64 0, .string ⟨#[]⟩] 158 (0, 0))
 obtain ⟨W0, hW0⟩ : ∃ W : World, W = ((w.alloc (.cells #[.string s, .int .i64 i0, .bool b0] 177)).alloc (.cells #[.string ⟨#[]⟩, .int .i64 0, .bool false] 177)).alloc (.cells #[.string ⟨#[]⟩, .int .i64 0, .int .i64 0, .int .i64 0, .string ⟨#[]⟩] 158) := ⟨_, rfl⟩
 have KB1 : Aside0 (W0.heap[w.heap.size]? = some (spotC s i0 b0)) := ⟨by rw [hW0]; exact hn1⟩
 have KB2 : Aside0 (W0.heap[w.heap.size + 1]? = some (spotC ⟨#[]⟩ 0 false)) := ⟨by rw [hW0]; exact hn2⟩
 have KB3 : Aside0 (W0.heap[w.heap.size + 1 + 1]? = some (prC ⟨#[]⟩ 0 0 0 ⟨#[]⟩)) := ⟨by rw [hW0]; exact hn3⟩
 have HB : Aside0 (Below w.heap.size w W0) := ⟨by rw [hW0]; exact below_alloc (below_alloc (below_alloc (Below.refl _ _) _) _) _⟩
 have HW0 := mk0 hW0
 clear hn1 hn2 hn3 hW0
 obtain ⟨POST, hPOST⟩ : ∃ P : Value → Prop, P = predPost s st := ⟨_, rfl⟩
 rw [← hPOST]
 have HPOST := mk0 hPOST
 generalize hnm : (⟨(wordS st).1.toArray⟩ : ByteArray) = nm at hwd
 have HNM := mk0 hnm
 have HWD := mk0 hwd
 have HBL := mk0 hbl
 clear hPOST hnm hwd hbl hst hst1
 go_enter Tryz.func73, Tryz.ntmps73
 go_wp2_with fail
 rw [← HW0.out]
 clear HW0
 refine (HWD.out _).mono ?_
 rintro e w1 ⟨rfl, hb⟩
 have k1_ := mk0 ((hb.block _ (blk_lt KB1.out)).trans KB1.out)
 have k2_ := mk0 ((hb.block _ (blk_lt KB2.out)).trans KB2.out)
 have k3_ := mk0 ((hb.block _ (blk_lt KB3.out)).trans KB3.out)
 have n_ := mk0 (below_then HB.out HB.out.size hb)
 clear KB1 KB2 KB3 HB hb
 have KB1 := k1_
 have KB2 := k2_
 have KB3 := k3_
 have HB := n_
 clear k1_ k2_ k3_ n_
 obtain ⟨c0, c1, c2, f0, f1, f2⟩ := spot_cells KB1.out
 obtain ⟨d0, d1, d2, g0, g1, g2⟩ := spot_cells KB2.out
 go_upto_region 2 with (fail)
 clear c0 c1 c2 f0 f1 f2 d0 d1 d2 g0 g1 g2
 have k1_ := mk0 (spot_set KB1.out s i1 b1)
 have k2_ := mk0 (spot_far KB2.out (show w.heap.size + 1 ≠ w.heap.size by omega) s i1 b1)
 have k3_ := mk0 (spot_far KB3.out (show w.heap.size + 1 + 1 ≠ w.heap.size by omega) s i1 b1)
 have n_ := mk0 (spot_below HB.out (Nat.le_refl w.heap.size) s i1 b1)
 clear KB1 KB2 KB3 HB
 have KB1 := k1_
 have KB2 := k2_
 have KB3 := k3_
 have HB := n_
 clear k1_ k2_ k3_ n_
 generalize (((w1.setCell ⟨w.heap.size, 0, none⟩ (.string s)).setCell ⟨w.heap.size, 1, none⟩ (.int .i64 i1)).setCell ⟨w.heap.size, 2, none⟩ (.bool b1)) = w2 at KB1 KB2 KB3 HB ⊢
 clear HWD
 cases hbb : (blanksS (wordS st).2).bad with
 | some n =>
  have HPS := mk0 (predS_bad hbb)
  rw [stV_of_bad hbb] at HBL
  have HSV := mk0 (stV_of_bad (s := s) hbb)
  generalize ((s.size - n : Nat) : Int) = i2 at HBL HSV
  have HBB := mk0 hbb
  clear hbb
  obtain ⟨c0, c1, c2, f0, f1, f2⟩ := spot_cells KB1.out
  obtain ⟨d0, d1, d2, g0, g1, g2⟩ := spot_cells KB2.out
  go_wp2_with fail
  refine (HBL.out _).mono ?_
  rintro e w3 ⟨rfl, hb⟩
  clear c0 c1 c2 f0 f1 f2 d0 d1 d2 g0 g1 g2
  have k1_ := mk0 ((hb.block _ (blk_lt KB1.out)).trans KB1.out)
  have k2_ := mk0 ((hb.block _ (blk_lt KB2.out)).trans KB2.out)
  have k3_ := mk0 ((hb.block _ (blk_lt KB3.out)).trans KB3.out)
  have n_ := mk0 (below_then HB.out HB.out.size hb)
  clear KB1 KB2 KB3 HB hb
  have KB1 := k1_
  have KB2 := k2_
  have KB3 := k3_
  have HB := n_
  clear k1_ k2_ k3_ n_
  obtain ⟨c0, c1, c2, f0, f1, f2⟩ := spot_cells KB1.out
  obtain ⟨d0, d1, d2, g0, g1, g2⟩ := spot_cells KB2.out
  go_upto_region 3 with (fail)
  clear c0 c1 c2 f0 f1 f2 d0 d1 d2 g0 g1 g2
  have k1_ := mk0 (spot_set KB1.out s i2 true)
  have k2_ := mk0 (spot_far KB2.out (show w.heap.size + 1 ≠ w.heap.size by omega) s i2 true)
  have k3_ := mk0 (spot_far KB3.out (show w.heap.size + 1 + 1 ≠ w.heap.size by omega) s i2 true)
  have n_ := mk0 (spot_below HB.out (Nat.le_refl w.heap.size) s i2 true)
  clear KB1 KB2 KB3 HB
  have KB1 := k1_
  have KB2 := k2_
  have KB3 := k3_
  have HB := n_
  clear k1_ k2_ k3_ n_
  generalize (((w3.setCell ⟨w.heap.size, 0, none⟩ (.string s)).setCell ⟨w.heap.size, 1, none⟩ (.int .i64 i2)).setCell ⟨w.heap.size, 2, none⟩ (.bool true)) = w4 at KB1 KB2 KB3 HB ⊢
  obtain ⟨c0, c1, c2, f0, f1, f2⟩ := spot_cells KB1.out
  obtain ⟨d0, d1, d2, g0, g1, g2⟩ := spot_cells KB2.out
  go_upto_region 4 with (fail)
  clear c0 c1 c2 f0 f1 f2 d0 d1 d2 g0 g1 g2
  have k1_ := mk0 ((Below.heap_alloc w4 (.cells #[.string nm, .int .i64 0, .int .i64 0, .int .i64 0, .string ⟨#[]⟩] 158) _ (blk_lt KB1.out)).trans KB1.out)
  have k2_ := mk0 ((Below.heap_alloc w4 (.cells #[.string nm, .int .i64 0, .int .i64 0, .int .i64 0, .string ⟨#[]⟩] 158) _ (blk_lt KB2.out)).trans KB2.out)
  have k3_ := mk0 ((Below.heap_alloc w4 (.cells #[.string nm, .int .i64 0, .int .i64 0, .int .i64 0, .string ⟨#[]⟩] 158) _ (blk_lt KB3.out)).trans KB3.out)
  have k5_ : Aside0 ((w4.alloc (.cells #[.string nm, .int .i64 0, .int .i64 0, .int .i64 0, .string ⟨#[]⟩] 158)).heap[w4.heap.size]? = some (prC nm 0 0 0 ⟨#[]⟩)) := ⟨heap_alloc_new w4 _⟩
  have n_ := mk0 (below_alloc HB.out (.cells #[.string nm, .int .i64 0, .int .i64 0, .int .i64 0, .string ⟨#[]⟩] 158))
  have l_ := mk0 (blk_lt KB3.out)
  clear KB1 KB2 KB3 HB
  have KB1 := k1_
  have KB2 := k2_
  have KB3 := k3_
  have KB5 := k5_
  have HB := n_
  have HL5 := l_
  clear k1_ k2_ k3_ k5_ n_ l_
  generalize w4.alloc (.cells #[.string nm, .int .i64 0, .int .i64 0, .int .i64 0, .string ⟨#[]⟩] 158) = w5 at KB1 KB2 KB3 KB5 HB ⊢
  generalize w4.heap.size = g5 at KB5 HL5 ⊢
  obtain ⟨c0, c1, c2, f0, f1, f2⟩ := spot_cells KB1.out
  obtain ⟨d0, d1, d2, g0, g1, g2⟩ := spot_cells KB2.out
  obtain ⟨p0, p1, p2, p3, p4, r0, r1, r2, r3, r4⟩ := prc_cells KB3.out
  obtain ⟨x0, x1, x2, x3, x4, y0, y1, y2, y3, y4⟩ := prc_cells KB5.out
  have ne1 : ¬ (w.heap.size + 1 + 1 = g5) := by have := HL5.out; omega
  have ne2 : ¬ (w.heap.size + 1 = g5) := by have := HL5.out; omega
  have ne3 : ¬ (w.heap.size = g5) := by have := HL5.out; omega
  go_wp2_with fail
  go_region
  go_wp2_with fail
  refine bodyPost_ret (v := .tuple #[.agg #[.string s, .int .i64 i2, .bool true], .agg #[.string nm, .int .i64 0, .int .i64 0, .int .i64 0, .string ⟨#[]⟩]]) (by simp [results, Tryz.results73, go_sem, d0, d1, d2, p0, p1, p2, p3, p4]) rfl ⟨_, rfl, ?_, ?_⟩
  ·
   rw [HPOST.out]
   refine ⟨⟨(wordS st).1, 0, 0, 0, []⟩, ?_, fun h => by rw [HPS.out, HBB.out] at h; cases h⟩
   rw [HPS.out, HSV.out, ← HNM.out]
   rfl
  ·
   exact below_drew1 (pr_below (g := w.heap.size + 1) (g2 := w.heap.size + 1 + 1) HB.out (by omega) (by omega) _ _ _ _ _ _ _ _)
 | none =>
  obtain ⟨L, hbe⟩ : ∃ L, blanksS (wordS st).2 = ⟨L, none⟩ := ⟨_, good_eta hbb⟩
  clear hbb
  have hpr := predS_of hbe
  rw [hbe] at HBL hokb
  rw [stV_good] at HBL
  have hle := P_le hokb
  have hsuf : L <:+ bytes s := hokb.1
  have hd := suf_drop hsuf
  simp only at hle
  obtain ⟨i, hi⟩ : ∃ i, s.size - L.length = i := ⟨_, rfl⟩
  have HSV : stV s ⟨L, none⟩ = .agg #[.string s, .int .i64 (i : Int), .bool false] := by rw [stV_good, hi]
  rw [hi] at HBL hd
  have hiz : i ≤ s.size := by omega
  have hli : L.length = s.size - i := by omega
  have HSV := mk0 HSV
  have HPR := mk0 hpr
  have HOK := mk0 hokb
  have HLI := mk0 hli
  clear hpr hok hokw hokb hsuf hi hle hli
  obtain ⟨c0, c1, c2, f0, f1, f2⟩ := spot_cells KB1.out
  obtain ⟨d0, d1, d2, g0, g1, g2⟩ := spot_cells KB2.out
  go_wp2_with fail
  refine (HBL.out _).mono ?_
  rintro e w3 ⟨rfl, hb⟩
  clear c0 c1 c2 f0 f1 f2 d0 d1 d2 g0 g1 g2
  have k1_ := mk0 ((hb.block _ (blk_lt KB1.out)).trans KB1.out)
  have k2_ := mk0 ((hb.block _ (blk_lt KB2.out)).trans KB2.out)
  have k3_ := mk0 ((hb.block _ (blk_lt KB3.out)).trans KB3.out)
  have n_ := mk0 (below_then HB.out HB.out.size hb)
  clear KB1 KB2 KB3 HB hb
  have KB1 := k1_
  have KB2 := k2_
  have KB3 := k3_
  have HB := n_
  clear k1_ k2_ k3_ n_
  obtain ⟨c0, c1, c2, f0, f1, f2⟩ := spot_cells KB1.out
  obtain ⟨d0, d1, d2, g0, g1, g2⟩ := spot_cells KB2.out
  go_upto_region 3 with (fail)
  clear c0 c1 c2 f0 f1 f2 d0 d1 d2 g0 g1 g2
  have k1_ := mk0 (spot_set KB1.out s (i : Int) false)
  have k2_ := mk0 (spot_far KB2.out (show w.heap.size + 1 ≠ w.heap.size by omega) s (i : Int) false)
  have k3_ := mk0 (spot_far KB3.out (show w.heap.size + 1 + 1 ≠ w.heap.size by omega) s (i : Int) false)
  have n_ := mk0 (spot_below HB.out (Nat.le_refl w.heap.size) s (i : Int) false)
  clear KB1 KB2 KB3 HB
  have KB1 := k1_
  have KB2 := k2_
  have KB3 := k3_
  have HB := n_
  clear k1_ k2_ k3_ n_
  generalize (((w3.setCell ⟨w.heap.size, 0, none⟩ (.string s)).setCell ⟨w.heap.size, 1, none⟩ (.int .i64 (i : Int))).setCell ⟨w.heap.size, 2, none⟩ (.bool false)) = w4 at KB1 KB2 KB3 HB ⊢
  obtain ⟨c0, c1, c2, f0, f1, f2⟩ := spot_cells KB1.out
  obtain ⟨d0, d1, d2, g0, g1, g2⟩ := spot_cells KB2.out
  go_upto_region 4 with (fail)
  clear c0 c1 c2 f0 f1 f2 d0 d1 d2 g0 g1 g2
  have k1_ := mk0 ((Below.heap_alloc w4 (.cells #[.string nm, .int .i64 0, .int .i64 0, .int .i64 0, .string ⟨#[]⟩] 158) _ (blk_lt KB1.out)).trans KB1.out)
  have k2_ := mk0 ((Below.heap_alloc w4 (.cells #[.string nm, .int .i64 0, .int .i64 0, .int .i64 0, .string ⟨#[]⟩] 158) _ (blk_lt KB2.out)).trans KB2.out)
  have k3_ := mk0 ((Below.heap_alloc w4 (.cells #[.string nm, .int .i64 0, .int .i64 0, .int .i64 0, .string ⟨#[]⟩] 158) _ (blk_lt KB3.out)).trans KB3.out)
  have k5_ : Aside0 ((w4.alloc (.cells #[.string nm, .int .i64 0, .int .i64 0, .int .i64 0, .string ⟨#[]⟩] 158)).heap[w4.heap.size]? = some (prC nm 0 0 0 ⟨#[]⟩)) := ⟨heap_alloc_new w4 _⟩
  have n_ := mk0 (below_alloc HB.out (.cells #[.string nm, .int .i64 0, .int .i64 0, .int .i64 0, .string ⟨#[]⟩] 158))
  have l_ := mk0 (blk_lt KB3.out)
  clear KB1 KB2 KB3 HB
  have KB1 := k1_
  have KB2 := k2_
  have KB3 := k3_
  have KB5 := k5_
  have HB := n_
  have HL5 := l_
  clear k1_ k2_ k3_ k5_ n_ l_
  generalize w4.alloc (.cells #[.string nm, .int .i64 0, .int .i64 0, .int .i64 0, .string ⟨#[]⟩] 158) = w5 at KB1 KB2 KB3 KB5 HB ⊢
  generalize w4.heap.size = g5 at KB5 HL5 ⊢
  have ne1 : ¬ (w.heap.size + 1 + 1 = g5) := by have := HL5.out; omega
  have ne2 : ¬ (w.heap.size + 1 = g5) := by have := HL5.out; omega
  have ne3 : ¬ (w.heap.size = g5) := by have := HL5.out; omega
  clear HBL
  cases L with
  | nil =>
   have hii : i = s.size := by have := HLI.out; simp at this; omega
   have q1 : decide ((i : Int) < (s.size : Int)) = false := decide_eq_false (by omega)
   have q2 : decide (i < s.size) = false := decide_eq_false (by omega)
   have HP := HPR.out
   rw [if_neg (by simp), if_neg (by simp)] at HP
   have HP := mk0 HP
   clear hii hd
   obtain ⟨L0, hL0⟩ : ∃ L0 : List UInt8, L0 = [] := ⟨_, rfl⟩
   rw [← hL0] at HP HOK HSV
   have HL0 := mk0 hL0
   clear hL0
   have hw2 := fun w => rword_calls s ⟨L0, none⟩ w hs HOK.out
   rw [HSV.out] at hw2
   generalize hA : wordS ⟨L0, none⟩ = a at hw2
   have hoka : a.2.ok (bytes s) := by rw [← hA]; exact wordS_ok HOK.out
   obtain ⟨i3, hi3⟩ : ∃ x, x = spI s a.2 := ⟨_, rfl⟩
   obtain ⟨b3, hb3⟩ : ∃ x, x = a.2.bad.isSome := ⟨_, rfl⟩
   have HST3 : Aside0 (stV s a.2 = .agg #[.string s, .int .i64 i3, .bool b3]) := ⟨by rw [hi3, hb3]; rfl⟩
   rw [HST3.out] at hw2
   have HW2 := mk0 hw2
   have HA := mk0 hA
   have HOKA := mk0 hoka
   have HB3 := mk0 hb3
   clear hw2 hA hoka hi3 hb3
   have han : a.2.bad = some 0 := by rw [← HA.out, HL0.out]; rfl
   have hb3 : b3 = true := by rw [HB3.out, han]; rfl
   subst hb3
   have hnil : a.1 = [] := by rw [← HA.out]; exact wordS_nil (by rw [HA.out]; exact han)
   have HBE := mk0 (show (if a.1 = [105, 110] then a.2 else stopS a.2 L0.length) = a.2 by rw [if_neg (by rw [hnil]; simp), stopS_bad han])
   clear han hnil
   obtain ⟨c0, c1, c2, f0, f1, f2⟩ := spot_cells KB1.out
   obtain ⟨d0, d1, d2, g0, g1, g2⟩ := spot_cells KB2.out
   obtain ⟨p0, p1, p2, p3, p4, r0, r1, r2, r3, r4⟩ := prc_cells KB3.out
   obtain ⟨x0, x1, x2, x3, x4, y0, y1, y2, y3, y4⟩ := prc_cells KB5.out
   go_wp2_with fail
   refine (HW2.out _).mono ?_
   rintro e w6 ⟨rfl, hb⟩
   clear c0 c1 c2 f0 f1 f2 d0 d1 d2 g0 g1 g2
   clear p0 p1 p2 p3 p4 r0 r1 r2 r3 r4 x0 x1 x2 x3 x4 y0 y1 y2 y3 y4
   have k1_ := mk0 ((hb.block _ (blk_lt KB1.out)).trans KB1.out)
   have k2_ := mk0 ((hb.block _ (blk_lt KB2.out)).trans KB2.out)
   have k3_ := mk0 ((hb.block _ (blk_lt KB3.out)).trans KB3.out)
   have k5_ := mk0 ((hb.block _ (blk_lt KB5.out)).trans KB5.out)
   have n_ := mk0 (below_then HB.out HB.out.size hb)
   clear KB1 KB2 KB3 KB5 HB hb
   have KB1 := k1_
   have KB2 := k2_
   have KB3 := k3_
   have KB5 := k5_
   have HB := n_
   clear k1_ k2_ k3_ k5_ n_
   obtain ⟨c0, c1, c2, f0, f1, f2⟩ := spot_cells KB1.out
   obtain ⟨d0, d1, d2, g0, g1, g2⟩ := spot_cells KB2.out
   obtain ⟨p0, p1, p2, p3, p4, r0, r1, r2, r3, r4⟩ := prc_cells KB3.out
   obtain ⟨x0, x1, x2, x3, x4, y0, y1, y2, y3, y4⟩ := prc_cells KB5.out
   go_upto_region 17 with (fail)
   clear c0 c1 c2 f0 f1 f2 d0 d1 d2 g0 g1 g2
   clear p0 p1 p2 p3 p4 r0 r1 r2 r3 r4 x0 x1 x2 x3 x4 y0 y1 y2 y3 y4
   have k1_ := mk0 ((Below.heap_alloc w6 (.cells #[.string s, .int .i64 i3, .bool true] 177) _ (blk_lt KB1.out)).trans KB1.out)
   have k2_ := mk0 ((Below.heap_alloc w6 (.cells #[.string s, .int .i64 i3, .bool true] 177) _ (blk_lt KB2.out)).trans KB2.out)
   have k3_ := mk0 ((Below.heap_alloc w6 (.cells #[.string s, .int .i64 i3, .bool true] 177) _ (blk_lt KB3.out)).trans KB3.out)
   have k5_ := mk0 ((Below.heap_alloc w6 (.cells #[.string s, .int .i64 i3, .bool true] 177) _ (blk_lt KB5.out)).trans KB5.out)
   have k6_ : Aside0 ((w6.alloc (.cells #[.string s, .int .i64 i3, .bool true] 177)).heap[w6.heap.size]? = some (spotC s i3 true)) := ⟨heap_alloc_new w6 _⟩
   have n_ := mk0 (below_alloc HB.out (.cells #[.string s, .int .i64 i3, .bool true] 177))
   have l_ := mk0 (blk_lt KB5.out)
   clear KB1 KB2 KB3 KB5 HB
   have KB1 := k1_
   have KB2 := k2_
   have KB3 := k3_
   have KB5 := k5_
   have KB10 := k6_
   have HB := n_
   have HL10 := l_
   clear k1_ k2_ k3_ k5_ k6_ n_ l_
   generalize w6.alloc (.cells #[.string s, .int .i64 i3, .bool true] 177) = w7 at KB1 KB2 KB3 KB5 KB10 HB ⊢
   generalize w6.heap.size = g10 at KB10 HL10 ⊢
   obtain ⟨c0, c1, c2, f0, f1, f2⟩ := spot_cells KB1.out
   obtain ⟨d0, d1, d2, g0, g1, g2⟩ := spot_cells KB2.out
   obtain ⟨p0, p1, p2, p3, p4, r0, r1, r2, r3, r4⟩ := prc_cells KB3.out
   obtain ⟨x0, x1, x2, x3, x4, y0, y1, y2, y3, y4⟩ := prc_cells KB5.out
   obtain ⟨z0, z1, z2, z3, z4, z5⟩ := spot_cells KB10.out
   have hn1 := fun w => rnumber_calls s a.2 w hs HOKA.out
   rw [HST3.out] at hn1
   have hokq := numberS_ok HOKA.out
   generalize hq1 : numberS a.2 = q1 at hn1 hokq
   have HQ1 := mk0 hq1
   obtain ⟨i4, hi4⟩ : ∃ x, x = spI s q1.2 := ⟨_, rfl⟩
   obtain ⟨b4, hb4⟩ : ∃ x, x = q1.2.bad.isSome := ⟨_, rfl⟩
   have HST4 : Aside0 (stV s q1.2 = .agg #[.string s, .int .i64 i4, .bool b4]) := ⟨by rw [hi4, hb4]; rfl⟩
   unfold numRV at hn1
   rw [HST4.out] at hn1
   obtain ⟨v1, hv1⟩ : ∃ v, v = (if q1.2.bad.isSome then 0 else q1.1) := ⟨_, rfl⟩
   rw [← hv1] at hn1
   have HV1 := mk0 hv1
   have HN1 := mk0 hn1
   have hm := fun w => rmark_calls s ⟨#[46, 46]⟩ q1.2 w hs (by decide) hokq
   rw [HST4.out, show bytes (⟨#[46, 46]⟩ : ByteArray) = [46, 46] from rfl] at hm
   have hokm := markS_ok (m := [46, 46]) hokq
   generalize hsm : markS [46, 46] q1.2 = sm at hm hokm
   have HSM := mk0 hsm
   have HM := mk0 hm
   have hn2 := fun w => rnumber_calls s sm w hs hokm
   generalize hq2 : numberS sm = q2 at hn2
   have HQ2 := mk0 hq2
   obtain ⟨i5, hi5⟩ : ∃ x, x = spI s q2.2 := ⟨_, rfl⟩
   obtain ⟨b5, hb5⟩ : ∃ x, x = q2.2.bad.isSome := ⟨_, rfl⟩
   have HST5 : Aside0 (stV s q2.2 = .agg #[.string s, .int .i64 i5, .bool b5]) := ⟨by rw [hi5, hb5]; rfl⟩
   unfold numRV at hn2
   rw [HST5.out] at hn2
   obtain ⟨v2, hv2⟩ : ∃ v, v = (if q2.2.bad.isSome then 0 else q2.1) := ⟨_, rfl⟩
   rw [← hv2] at hn2
   have HV2 := mk0 hv2
   have HN2 := mk0 hn2
   clear hn1 hokq hq1 hi4 hb4 hv1 hm hokm hsm hn2 hq2 hi5 hb5 hv2
   go_wp2_with fail
   refine (HN1.out _).mono ?_
   rintro e w8 ⟨rfl, hb⟩
   clear z0 z1 z2 z3 z4 z5 KB10
   clear c0 c1 c2 f0 f1 f2 d0 d1 d2 g0 g1 g2
   clear p0 p1 p2 p3 p4 r0 r1 r2 r3 r4 x0 x1 x2 x3 x4 y0 y1 y2 y3 y4
   have k1_ := mk0 ((hb.block _ (blk_lt KB1.out)).trans KB1.out)
   have k2_ := mk0 ((hb.block _ (blk_lt KB2.out)).trans KB2.out)
   have k3_ := mk0 ((hb.block _ (blk_lt KB3.out)).trans KB3.out)
   have k5_ := mk0 ((hb.block _ (blk_lt KB5.out)).trans KB5.out)
   have n_ := mk0 (below_then HB.out HB.out.size hb)
   clear KB1 KB2 KB3 KB5 HB hb
   have KB1 := k1_
   have KB2 := k2_
   have KB3 := k3_
   have KB5 := k5_
   have HB := n_
   clear k1_ k2_ k3_ k5_ n_
   obtain ⟨c0, c1, c2, f0, f1, f2⟩ := spot_cells KB1.out
   obtain ⟨d0, d1, d2, g0, g1, g2⟩ := spot_cells KB2.out
   obtain ⟨p0, p1, p2, p3, p4, r0, r1, r2, r3, r4⟩ := prc_cells KB3.out
   obtain ⟨x0, x1, x2, x3, x4, y0, y1, y2, y3, y4⟩ := prc_cells KB5.out
   go_upto_region 20 with (fail)
   clear c0 c1 c2 f0 f1 f2 d0 d1 d2 g0 g1 g2
   clear p0 p1 p2 p3 p4 r0 r1 r2 r3 r4 x0 x1 x2 x3 x4 y0 y1 y2 y3 y4
   have k1_ := mk0 ((Below.heap_alloc w8 (.cells #[.string s, .int .i64 i4, .bool b4] 177) _ (blk_lt KB1.out)).trans KB1.out)
   have k2_ := mk0 ((Below.heap_alloc w8 (.cells #[.string s, .int .i64 i4, .bool b4] 177) _ (blk_lt KB2.out)).trans KB2.out)
   have k3_ := mk0 ((Below.heap_alloc w8 (.cells #[.string s, .int .i64 i4, .bool b4] 177) _ (blk_lt KB3.out)).trans KB3.out)
   have k5_ := mk0 ((Below.heap_alloc w8 (.cells #[.string s, .int .i64 i4, .bool b4] 177) _ (blk_lt KB5.out)).trans KB5.out)
   have k6_ : Aside0 ((w8.alloc (.cells #[.string s, .int .i64 i4, .bool b4] 177)).heap[w8.heap.size]? = some (spotC s i4 b4)) := ⟨heap_alloc_new w8 _⟩
   have n_ := mk0 (below_alloc HB.out (.cells #[.string s, .int .i64 i4, .bool b4] 177))
   have l_ := mk0 (blk_lt KB5.out)
   clear KB1 KB2 KB3 KB5 HB
   have KB1 := k1_
   have KB2 := k2_
   have KB3 := k3_
   have KB5 := k5_
   have KB12 := k6_
   have HB := n_
   have HL12 := l_
   clear k1_ k2_ k3_ k5_ k6_ n_ l_
   generalize w8.alloc (.cells #[.string s, .int .i64 i4, .bool b4] 177) = w9 at KB1 KB2 KB3 KB5 KB12 HB ⊢
   generalize w8.heap.size = g12 at KB12 HL12 ⊢
   obtain ⟨c0, c1, c2, f0, f1, f2⟩ := spot_cells KB1.out
   obtain ⟨d0, d1, d2, g0, g1, g2⟩ := spot_cells KB2.out
   obtain ⟨p0, p1, p2, p3, p4, r0, r1, r2, r3, r4⟩ := prc_cells KB3.out
   obtain ⟨x0, x1, x2, x3, x4, y0, y1, y2, y3, y4⟩ := prc_cells KB5.out
   obtain ⟨z0, z1, z2, z3, z4, z5⟩ := spot_cells KB12.out
   go_wp2_with fail
   refine (HM.out _).mono ?_
   rintro e w10 ⟨rfl, hb⟩
   clear z0 z1 z2 z3 z4 z5 KB12
   clear c0 c1 c2 f0 f1 f2 d0 d1 d2 g0 g1 g2
   clear p0 p1 p2 p3 p4 r0 r1 r2 r3 r4 x0 x1 x2 x3 x4 y0 y1 y2 y3 y4
   have k1_ := mk0 ((hb.block _ (blk_lt KB1.out)).trans KB1.out)
   have k2_ := mk0 ((hb.block _ (blk_lt KB2.out)).trans KB2.out)
   have k3_ := mk0 ((hb.block _ (blk_lt KB3.out)).trans KB3.out)
   have k5_ := mk0 ((hb.block _ (blk_lt KB5.out)).trans KB5.out)
   have n_ := mk0 (below_then HB.out HB.out.size hb)
   clear KB1 KB2 KB3 KB5 HB hb
   have KB1 := k1_
   have KB2 := k2_
   have KB3 := k3_
   have KB5 := k5_
   have HB := n_
   clear k1_ k2_ k3_ k5_ n_
   obtain ⟨c0, c1, c2, f0, f1, f2⟩ := spot_cells KB1.out
   obtain ⟨d0, d1, d2, g0, g1, g2⟩ := spot_cells KB2.out
   obtain ⟨p0, p1, p2, p3, p4, r0, r1, r2, r3, r4⟩ := prc_cells KB3.out
   obtain ⟨x0, x1, x2, x3, x4, y0, y1, y2, y3, y4⟩ := prc_cells KB5.out
   go_wp2_with fail
   refine (HN2.out _).mono ?_
   rintro e w11 ⟨rfl, hb⟩
   clear c0 c1 c2 f0 f1 f2 d0 d1 d2 g0 g1 g2
   clear p0 p1 p2 p3 p4 r0 r1 r2 r3 r4 x0 x1 x2 x3 x4 y0 y1 y2 y3 y4
   have k1_ := mk0 ((hb.block _ (blk_lt KB1.out)).trans KB1.out)
   have k2_ := mk0 ((hb.block _ (blk_lt KB2.out)).trans KB2.out)
   have k3_ := mk0 ((hb.block _ (blk_lt KB3.out)).trans KB3.out)
   have k5_ := mk0 ((hb.block _ (blk_lt KB5.out)).trans KB5.out)
   have n_ := mk0 (below_then HB.out HB.out.size hb)
   clear KB1 KB2 KB3 KB5 HB hb
   have KB1 := k1_
   have KB2 := k2_
   have KB3 := k3_
   have KB5 := k5_
   have HB := n_
   clear k1_ k2_ k3_ k5_ n_
   obtain ⟨c0, c1, c2, f0, f1, f2⟩ := spot_cells KB1.out
   obtain ⟨d0, d1, d2, g0, g1, g2⟩ := spot_cells KB2.out
   obtain ⟨p0, p1, p2, p3, p4, r0, r1, r2, r3, r4⟩ := prc_cells KB3.out
   obtain ⟨x0, x1, x2, x3, x4, y0, y1, y2, y3, y4⟩ := prc_cells KB5.out
   go_upto_region 21 with (fail)
   clear c0 c1 c2 f0 f1 f2 d0 d1 d2 g0 g1 g2
   clear p0 p1 p2 p3 p4 r0 r1 r2 r3 r4 x0 x1 x2 x3 x4 y0 y1 y2 y3 y4
   have k1_ := mk0 ((Below.heap_alloc w11 (.cells #[.string s, .int .i64 i5, .bool b5] 177) _ (blk_lt KB1.out)).trans KB1.out)
   have k2_ := mk0 ((Below.heap_alloc w11 (.cells #[.string s, .int .i64 i5, .bool b5] 177) _ (blk_lt KB2.out)).trans KB2.out)
   have k3_ := mk0 ((Below.heap_alloc w11 (.cells #[.string s, .int .i64 i5, .bool b5] 177) _ (blk_lt KB3.out)).trans KB3.out)
   have k5_ := mk0 ((Below.heap_alloc w11 (.cells #[.string s, .int .i64 i5, .bool b5] 177) _ (blk_lt KB5.out)).trans KB5.out)
   have k6_ : Aside0 ((w11.alloc (.cells #[.string s, .int .i64 i5, .bool b5] 177)).heap[w11.heap.size]? = some (spotC s i5 b5)) := ⟨heap_alloc_new w11 _⟩
   have n_ := mk0 (below_alloc HB.out (.cells #[.string s, .int .i64 i5, .bool b5] 177))
   have l_ := mk0 (blk_lt KB5.out)
   clear KB1 KB2 KB3 KB5 HB
   have KB1 := k1_
   have KB2 := k2_
   have KB3 := k3_
   have KB5 := k5_
   have KB6 := k6_
   have HB := n_
   have HL6 := l_
   clear k1_ k2_ k3_ k5_ k6_ n_ l_
   generalize w11.alloc (.cells #[.string s, .int .i64 i5, .bool b5] 177) = w12 at KB1 KB2 KB3 KB5 KB6 HB ⊢
   generalize w11.heap.size = g6 at KB6 HL6 ⊢
   obtain ⟨c0, c1, c2, f0, f1, f2⟩ := spot_cells KB1.out
   obtain ⟨d0, d1, d2, g0, g1, g2⟩ := spot_cells KB2.out
   obtain ⟨p0, p1, p2, p3, p4, r0, r1, r2, r3, r4⟩ := prc_cells KB3.out
   obtain ⟨x0, x1, x2, x3, x4, y0, y1, y2, y3, y4⟩ := prc_cells KB5.out
   obtain ⟨z0, z1, z2, z3, z4, z5⟩ := spot_cells KB6.out
   go_upto_region 22 with (fail)
   clear c0 c1 c2 f0 f1 f2 d0 d1 d2 g0 g1 g2
   clear p0 p1 p2 p3 p4 r0 r1 r2 r3 r4 x0 x1 x2 x3 x4 y0 y1 y2 y3 y4
   clear z0 z1 z2 z3 z4 z5
   have k1_ := mk0 ((Below.heap_setCell w12 ⟨g5, 1, none⟩ (.int .i64 1) _ (show w.heap.size ≠ g5 by have := HL5.out; omega)).trans KB1.out)
   have k2_ := mk0 ((Below.heap_setCell w12 ⟨g5, 1, none⟩ (.int .i64 1) _ (show w.heap.size + 1 ≠ g5 by have := HL5.out; omega)).trans KB2.out)
   have k3_ := mk0 ((Below.heap_setCell w12 ⟨g5, 1, none⟩ (.int .i64 1) _ (show w.heap.size + 1 + 1 ≠ g5 by have := HL5.out; omega)).trans KB3.out)
   have k6_ := mk0 ((Below.heap_setCell w12 ⟨g5, 1, none⟩ (.int .i64 1) _ (show g6 ≠ g5 by have := HL6.out; omega)).trans KB6.out)
   have k5_ : Aside0 ((w12.setCell ⟨g5, 1, none⟩ (.int .i64 1)).heap[g5]? = some (prC nm 1 0 0 ⟨#[]⟩)) := ⟨by have := blk_set KB5.out 1 (.int .i64 1); simpa [prC] using this⟩
   have n_ := mk0 (HB.out.setCell (p := ⟨g5, 1, none⟩) (show w.heap.size ≤ g5 by have := HL5.out; omega) (.int .i64 1))
   clear KB1 KB2 KB3 KB5 KB6 HB
   have KB1 := k1_
   have KB2 := k2_
   have KB3 := k3_
   have KB5 := k5_
   have KB6 := k6_
   have HB := n_
   clear k1_ k2_ k3_ k5_ k6_ n_
   generalize w12.setCell ⟨g5, 1, none⟩ (.int .i64 1) = w13 at KB1 KB2 KB3 KB5 KB6 HB ⊢
   obtain ⟨c0, c1, c2, f0, f1, f2⟩ := spot_cells KB1.out
   obtain ⟨d0, d1, d2, g0, g1, g2⟩ := spot_cells KB2.out
   obtain ⟨p0, p1, p2, p3, p4, r0, r1, r2, r3, r4⟩ := prc_cells KB3.out
   obtain ⟨x0, x1, x2, x3, x4, y0, y1, y2, y3, y4⟩ := prc_cells KB5.out
   obtain ⟨z0, z1, z2, z3, z4, z5⟩ := spot_cells KB6.out
   go_upto_region 23 with (fail)
   clear c0 c1 c2 f0 f1 f2 d0 d1 d2 g0 g1 g2
   clear p0 p1 p2 p3 p4 r0 r1 r2 r3 r4 x0 x1 x2 x3 x4 y0 y1 y2 y3 y4
   clear z0 z1 z2 z3 z4 z5
   have k1_ := mk0 ((Below.heap_setCell w13 ⟨g5, 2, none⟩ (.int .i64 v1) _ (show w.heap.size ≠ g5 by have := HL5.out; omega)).trans KB1.out)
   have k2_ := mk0 ((Below.heap_setCell w13 ⟨g5, 2, none⟩ (.int .i64 v1) _ (show w.heap.size + 1 ≠ g5 by have := HL5.out; omega)).trans KB2.out)
   have k3_ := mk0 ((Below.heap_setCell w13 ⟨g5, 2, none⟩ (.int .i64 v1) _ (show w.heap.size + 1 + 1 ≠ g5 by have := HL5.out; omega)).trans KB3.out)
   have k6_ := mk0 ((Below.heap_setCell w13 ⟨g5, 2, none⟩ (.int .i64 v1) _ (show g6 ≠ g5 by have := HL6.out; omega)).trans KB6.out)
   have k5_ : Aside0 ((w13.setCell ⟨g5, 2, none⟩ (.int .i64 v1)).heap[g5]? = some (prC nm 1 v1 0 ⟨#[]⟩)) := ⟨by have := blk_set KB5.out 2 (.int .i64 v1); simpa [prC] using this⟩
   have n_ := mk0 (HB.out.setCell (p := ⟨g5, 2, none⟩) (show w.heap.size ≤ g5 by have := HL5.out; omega) (.int .i64 v1))
   clear KB1 KB2 KB3 KB5 KB6 HB
   have KB1 := k1_
   have KB2 := k2_
   have KB3 := k3_
   have KB5 := k5_
   have KB6 := k6_
   have HB := n_
   clear k1_ k2_ k3_ k5_ k6_ n_
   generalize w13.setCell ⟨g5, 2, none⟩ (.int .i64 v1) = w14 at KB1 KB2 KB3 KB5 KB6 HB ⊢
   obtain ⟨c0, c1, c2, f0, f1, f2⟩ := spot_cells KB1.out
   obtain ⟨d0, d1, d2, g0, g1, g2⟩ := spot_cells KB2.out
   obtain ⟨p0, p1, p2, p3, p4, r0, r1, r2, r3, r4⟩ := prc_cells KB3.out
   obtain ⟨x0, x1, x2, x3, x4, y0, y1, y2, y3, y4⟩ := prc_cells KB5.out
   obtain ⟨z0, z1, z2, z3, z4, z5⟩ := spot_cells KB6.out
   go_upto_region 24 with (fail)
   clear c0 c1 c2 f0 f1 f2 d0 d1 d2 g0 g1 g2
   clear p0 p1 p2 p3 p4 r0 r1 r2 r3 r4 x0 x1 x2 x3 x4 y0 y1 y2 y3 y4
   clear z0 z1 z2 z3 z4 z5
   have k1_ := mk0 ((Below.heap_setCell w14 ⟨g5, 3, none⟩ (.int .i64 v2) _ (show w.heap.size ≠ g5 by have := HL5.out; omega)).trans KB1.out)
   have k2_ := mk0 ((Below.heap_setCell w14 ⟨g5, 3, none⟩ (.int .i64 v2) _ (show w.heap.size + 1 ≠ g5 by have := HL5.out; omega)).trans KB2.out)
   have k3_ := mk0 ((Below.heap_setCell w14 ⟨g5, 3, none⟩ (.int .i64 v2) _ (show w.heap.size + 1 + 1 ≠ g5 by have := HL5.out; omega)).trans KB3.out)
   have k6_ := mk0 ((Below.heap_setCell w14 ⟨g5, 3, none⟩ (.int .i64 v2) _ (show g6 ≠ g5 by have := HL6.out; omega)).trans KB6.out)
   have k5_ : Aside0 ((w14.setCell ⟨g5, 3, none⟩ (.int .i64 v2)).heap[g5]? = some (prC nm 1 v1 v2 ⟨#[]⟩)) := ⟨by have := blk_set KB5.out 3 (.int .i64 v2); simpa [prC] using this⟩
   have n_ := mk0 (HB.out.setCell (p := ⟨g5, 3, none⟩) (show w.heap.size ≤ g5 by have := HL5.out; omega) (.int .i64 v2))
   clear KB1 KB2 KB3 KB5 KB6 HB
   have KB1 := k1_
   have KB2 := k2_
   have KB3 := k3_
   have KB5 := k5_
   have KB6 := k6_
   have HB := n_
   clear k1_ k2_ k3_ k5_ k6_ n_
   generalize w14.setCell ⟨g5, 3, none⟩ (.int .i64 v2) = w15 at KB1 KB2 KB3 KB5 KB6 HB ⊢
   have ne4 : ¬ (w.heap.size + 1 + 1 = g6) := by have := HL5.out; have := HL6.out; omega
   have ne5 : ¬ (w.heap.size + 1 = g6) := by have := HL5.out; have := HL6.out; omega
   obtain ⟨c0, c1, c2, f0, f1, f2⟩ := spot_cells KB1.out
   obtain ⟨d0, d1, d2, g0, g1, g2⟩ := spot_cells KB2.out
   obtain ⟨p0, p1, p2, p3, p4, r0, r1, r2, r3, r4⟩ := prc_cells KB3.out
   obtain ⟨x0, x1, x2, x3, x4, y0, y1, y2, y3, y4⟩ := prc_cells KB5.out
   obtain ⟨z0, z1, z2, z3, z4, z5⟩ := spot_cells KB6.out
   go_region
   go_wp2_with fail
   refine bodyPost_ret (v := .tuple #[.agg #[.string s, .int .i64 i5, .bool b5], .agg #[.string nm, .int .i64 1, .int .i64 v1, .int .i64 v2, .string ⟨#[]⟩]]) (by simp [results, Tryz.results73, go_sem, d0, d1, d2, p0, p1, p2, p3, p4]) rfl ⟨_, rfl, ?_, ?_⟩
   ·
    rw [HPOST.out]
    exact in_post HP.out HA.out HBE.out HQ1.out HSM.out HQ2.out HST5.out HV1.out HV2.out HNM.out
   ·
    exact below_drew1 (pr_below (g := w.heap.size + 1) (g2 := w.heap.size + 1 + 1) HB.out (by omega) (by omega) _ _ _ _ _ _ _ _)
  | cons c r =>
   have HD := mk0 hd
   obtain ⟨hlt, _, h3⟩ := bt_cons hd.symm
   have hx : ∀ h : i < s.size, s[i]'h = c := fun h => by
    rw [dropB_cons h] at hd
    injection hd with hd1 _
    exact hd1.symm
   have p1 : (0 : Int) ≤ (i : Int) := by omega
   have p2 : (i : Int) < (s.size : Int) := by omega
   clear h3 hd
   by_cases h61 : c = 61
   ·
    have HP := HPR.out
    rw [if_pos (by rw [h61]; rfl)] at HP
    have HP := mk0 HP
    have e61 : ((c.toNat : Int) == 61) = true := by rw [h61]; rfl
    clear h61
    have hm := fun w => rmark_calls s ⟨#[61]⟩ ⟨c :: r, none⟩ w hs (by decide) HOK.out
    have hs2 := fun w => rstr_calls s (markS [61] ⟨c :: r, none⟩) w hs (markS_ok HOK.out)
    rw [HSV.out, show bytes (⟨#[61]⟩ : ByteArray) = [61] from rfl] at hm
    generalize markS [61] ⟨c :: r, none⟩ = sm at hm hs2 HP
    generalize textS sm = t at hs2 HP
    have HM := mk0 hm
    obtain ⟨i3, hi3⟩ : ∃ x, x = spI s t.2 := ⟨_, rfl⟩
    obtain ⟨b3, hb3⟩ : ∃ x, x = t.2.bad.isSome := ⟨_, rfl⟩
    have HST3 : Aside0 (stV s t.2 = .agg #[.string s, .int .i64 i3, .bool b3]) := ⟨by rw [hi3, hb3]; rfl⟩
    unfold strRV at hs2
    rw [HST3.out] at hs2
    have HS2 := mk0 hs2
    clear hm hs2 hi3 hb3
    obtain ⟨c0, c1, c2, f0, f1, f2⟩ := spot_cells KB1.out
    obtain ⟨d0, d1, d2, g0, g1, g2⟩ := spot_cells KB2.out
    obtain ⟨p0, p1, p2, p3, p4, r0, r1, r2, r3, r4⟩ := prc_cells KB3.out
    obtain ⟨x0, x1, x2, x3, x4, y0, y1, y2, y3, y4⟩ := prc_cells KB5.out
    go_wp2_with fail
    refine (HM.out _).mono ?_
    rintro e w6 ⟨rfl, hb⟩
    clear c0 c1 c2 f0 f1 f2 d0 d1 d2 g0 g1 g2
    clear p0 p1 p2 p3 p4 r0 r1 r2 r3 r4 x0 x1 x2 x3 x4 y0 y1 y2 y3 y4
    have k1_ := mk0 ((hb.block _ (blk_lt KB1.out)).trans KB1.out)
    have k2_ := mk0 ((hb.block _ (blk_lt KB2.out)).trans KB2.out)
    have k3_ := mk0 ((hb.block _ (blk_lt KB3.out)).trans KB3.out)
    have k5_ := mk0 ((hb.block _ (blk_lt KB5.out)).trans KB5.out)
    have n_ := mk0 (below_then HB.out HB.out.size hb)
    clear KB1 KB2 KB3 KB5 HB hb
    have KB1 := k1_
    have KB2 := k2_
    have KB3 := k3_
    have KB5 := k5_
    have HB := n_
    clear k1_ k2_ k3_ k5_ n_
    obtain ⟨c0, c1, c2, f0, f1, f2⟩ := spot_cells KB1.out
    obtain ⟨d0, d1, d2, g0, g1, g2⟩ := spot_cells KB2.out
    obtain ⟨p0, p1, p2, p3, p4, r0, r1, r2, r3, r4⟩ := prc_cells KB3.out
    obtain ⟨x0, x1, x2, x3, x4, y0, y1, y2, y3, y4⟩ := prc_cells KB5.out
    go_wp2_with fail
    refine (HS2.out _).mono ?_
    rintro e w7 ⟨rfl, hb⟩
    clear c0 c1 c2 f0 f1 f2 d0 d1 d2 g0 g1 g2
    clear p0 p1 p2 p3 p4 r0 r1 r2 r3 r4 x0 x1 x2 x3 x4 y0 y1 y2 y3 y4
    have k1_ := mk0 ((hb.block _ (blk_lt KB1.out)).trans KB1.out)
    have k2_ := mk0 ((hb.block _ (blk_lt KB2.out)).trans KB2.out)
    have k3_ := mk0 ((hb.block _ (blk_lt KB3.out)).trans KB3.out)
    have k5_ := mk0 ((hb.block _ (blk_lt KB5.out)).trans KB5.out)
    have n_ := mk0 (below_then HB.out HB.out.size hb)
    clear KB1 KB2 KB3 KB5 HB hb
    have KB1 := k1_
    have KB2 := k2_
    have KB3 := k3_
    have KB5 := k5_
    have HB := n_
    clear k1_ k2_ k3_ k5_ n_
    obtain ⟨c0, c1, c2, f0, f1, f2⟩ := spot_cells KB1.out
    obtain ⟨d0, d1, d2, g0, g1, g2⟩ := spot_cells KB2.out
    obtain ⟨p0, p1, p2, p3, p4, r0, r1, r2, r3, r4⟩ := prc_cells KB3.out
    obtain ⟨x0, x1, x2, x3, x4, y0, y1, y2, y3, y4⟩ := prc_cells KB5.out
    go_upto_region 8 with (fail)
    clear c0 c1 c2 f0 f1 f2 d0 d1 d2 g0 g1 g2
    clear p0 p1 p2 p3 p4 r0 r1 r2 r3 r4 x0 x1 x2 x3 x4 y0 y1 y2 y3 y4
    have k1_ := mk0 ((Below.heap_alloc w7 (.cells #[.string s, .int .i64 i3, .bool b3] 177) _ (blk_lt KB1.out)).trans KB1.out)
    have k2_ := mk0 ((Below.heap_alloc w7 (.cells #[.string s, .int .i64 i3, .bool b3] 177) _ (blk_lt KB2.out)).trans KB2.out)
    have k3_ := mk0 ((Below.heap_alloc w7 (.cells #[.string s, .int .i64 i3, .bool b3] 177) _ (blk_lt KB3.out)).trans KB3.out)
    have k5_ := mk0 ((Below.heap_alloc w7 (.cells #[.string s, .int .i64 i3, .bool b3] 177) _ (blk_lt KB5.out)).trans KB5.out)
    have k6_ : Aside0 ((w7.alloc (.cells #[.string s, .int .i64 i3, .bool b3] 177)).heap[w7.heap.size]? = some (spotC s i3 b3)) := ⟨heap_alloc_new w7 _⟩
    have n_ := mk0 (below_alloc HB.out (.cells #[.string s, .int .i64 i3, .bool b3] 177))
    have l_ := mk0 (blk_lt KB5.out)
    clear KB1 KB2 KB3 KB5 HB
    have KB1 := k1_
    have KB2 := k2_
    have KB3 := k3_
    have KB5 := k5_
    have KB6 := k6_
    have HB := n_
    have HL6 := l_
    clear k1_ k2_ k3_ k5_ k6_ n_ l_
    generalize w7.alloc (.cells #[.string s, .int .i64 i3, .bool b3] 177) = w8 at KB1 KB2 KB3 KB5 KB6 HB ⊢
    generalize w7.heap.size = g6 at KB6 HL6 ⊢
    obtain ⟨c0, c1, c2, f0, f1, f2⟩ := spot_cells KB1.out
    obtain ⟨d0, d1, d2, g0, g1, g2⟩ := spot_cells KB2.out
    obtain ⟨p0, p1, p2, p3, p4, r0, r1, r2, r3, r4⟩ := prc_cells KB3.out
    obtain ⟨x0, x1, x2, x3, x4, y0, y1, y2, y3, y4⟩ := prc_cells KB5.out
    obtain ⟨z0, z1, z2, z3, z4, z5⟩ := spot_cells KB6.out
    go_upto_region 9 with (fail)
    clear c0 c1 c2 f0 f1 f2 d0 d1 d2 g0 g1 g2
    clear p0 p1 p2 p3 p4 r0 r1 r2 r3 r4 x0 x1 x2 x3 x4 y0 y1 y2 y3 y4
    clear z0 z1 z2 z3 z4 z5
    have k1_ := mk0 ((Below.heap_setCell w8 ⟨g5, 1, none⟩ (.int .i64 2) _ (show w.heap.size ≠ g5 by have := HL5.out; omega)).trans KB1.out)
    have k2_ := mk0 ((Below.heap_setCell w8 ⟨g5, 1, none⟩ (.int .i64 2) _ (show w.heap.size + 1 ≠ g5 by have := HL5.out; omega)).trans KB2.out)
    have k3_ := mk0 ((Below.heap_setCell w8 ⟨g5, 1, none⟩ (.int .i64 2) _ (show w.heap.size + 1 + 1 ≠ g5 by have := HL5.out; omega)).trans KB3.out)
    have k6_ := mk0 ((Below.heap_setCell w8 ⟨g5, 1, none⟩ (.int .i64 2) _ (show g6 ≠ g5 by have := HL6.out; omega)).trans KB6.out)
    have k5_ : Aside0 ((w8.setCell ⟨g5, 1, none⟩ (.int .i64 2)).heap[g5]? = some (prC nm 2 0 0 ⟨#[]⟩)) := ⟨by have := blk_set KB5.out 1 (.int .i64 2); simpa [prC] using this⟩
    have n_ := mk0 (HB.out.setCell (p := ⟨g5, 1, none⟩) (show w.heap.size ≤ g5 by have := HL5.out; omega) (.int .i64 2))
    clear KB1 KB2 KB3 KB5 KB6 HB
    have KB1 := k1_
    have KB2 := k2_
    have KB3 := k3_
    have KB5 := k5_
    have KB6 := k6_
    have HB := n_
    clear k1_ k2_ k3_ k5_ k6_ n_
    generalize w8.setCell ⟨g5, 1, none⟩ (.int .i64 2) = w9 at KB1 KB2 KB3 KB5 KB6 HB ⊢
    obtain ⟨c0, c1, c2, f0, f1, f2⟩ := spot_cells KB1.out
    obtain ⟨d0, d1, d2, g0, g1, g2⟩ := spot_cells KB2.out
    obtain ⟨p0, p1, p2, p3, p4, r0, r1, r2, r3, r4⟩ := prc_cells KB3.out
    obtain ⟨x0, x1, x2, x3, x4, y0, y1, y2, y3, y4⟩ := prc_cells KB5.out
    obtain ⟨z0, z1, z2, z3, z4, z5⟩ := spot_cells KB6.out
    go_upto_region 10 with (fail)
    clear c0 c1 c2 f0 f1 f2 d0 d1 d2 g0 g1 g2
    clear p0 p1 p2 p3 p4 r0 r1 r2 r3 r4 x0 x1 x2 x3 x4 y0 y1 y2 y3 y4
    clear z0 z1 z2 z3 z4 z5
    have k1_ := mk0 ((Below.heap_setCell w9 ⟨g5, 4, none⟩ (.string ⟨t.1.toArray⟩) _ (show w.heap.size ≠ g5 by have := HL5.out; omega)).trans KB1.out)
    have k2_ := mk0 ((Below.heap_setCell w9 ⟨g5, 4, none⟩ (.string ⟨t.1.toArray⟩) _ (show w.heap.size + 1 ≠ g5 by have := HL5.out; omega)).trans KB2.out)
    have k3_ := mk0 ((Below.heap_setCell w9 ⟨g5, 4, none⟩ (.string ⟨t.1.toArray⟩) _ (show w.heap.size + 1 + 1 ≠ g5 by have := HL5.out; omega)).trans KB3.out)
    have k6_ := mk0 ((Below.heap_setCell w9 ⟨g5, 4, none⟩ (.string ⟨t.1.toArray⟩) _ (show g6 ≠ g5 by have := HL6.out; omega)).trans KB6.out)
    have k5_ : Aside0 ((w9.setCell ⟨g5, 4, none⟩ (.string ⟨t.1.toArray⟩)).heap[g5]? = some (prC nm 2 0 0 ⟨t.1.toArray⟩)) := ⟨by have := blk_set KB5.out 4 (.string ⟨t.1.toArray⟩); simpa [prC] using this⟩
    have n_ := mk0 (HB.out.setCell (p := ⟨g5, 4, none⟩) (show w.heap.size ≤ g5 by have := HL5.out; omega) (.string ⟨t.1.toArray⟩))
    clear KB1 KB2 KB3 KB5 KB6 HB
    have KB1 := k1_
    have KB2 := k2_
    have KB3 := k3_
    have KB5 := k5_
    have KB6 := k6_
    have HB := n_
    clear k1_ k2_ k3_ k5_ k6_ n_
    generalize w9.setCell ⟨g5, 4, none⟩ (.string ⟨t.1.toArray⟩) = w10 at KB1 KB2 KB3 KB5 KB6 HB ⊢
    have ne4 : ¬ (w.heap.size + 1 + 1 = g6) := by have := HL5.out; have := HL6.out; omega
    have ne5 : ¬ (w.heap.size + 1 = g6) := by have := HL5.out; have := HL6.out; omega
    obtain ⟨c0, c1, c2, f0, f1, f2⟩ := spot_cells KB1.out
    obtain ⟨d0, d1, d2, g0, g1, g2⟩ := spot_cells KB2.out
    obtain ⟨p0, p1, p2, p3, p4, r0, r1, r2, r3, r4⟩ := prc_cells KB3.out
    obtain ⟨x0, x1, x2, x3, x4, y0, y1, y2, y3, y4⟩ := prc_cells KB5.out
    obtain ⟨z0, z1, z2, z3, z4, z5⟩ := spot_cells KB6.out
    go_region
    go_wp2_with fail
    refine bodyPost_ret (v := .tuple #[.agg #[.string s, .int .i64 i3, .bool b3], .agg #[.string nm, .int .i64 2, .int .i64 0, .int .i64 0, .string ⟨t.1.toArray⟩]]) (by simp [results, Tryz.results73, go_sem, d0, d1, d2, p0, p1, p2, p3, p4]) rfl ⟨_, rfl, ?_, ?_⟩
    ·
     rw [HPOST.out]
     exact ⟨⟨(wordS st).1, 2, 0, 0, t.1⟩, by rw [HP.out]; show _ = Value.tuple #[stV s t.2, prV _]; rw [HST3.out, ← HNM.out]; rfl, fun _ => by rw [HP.out]⟩
    ·
     exact below_drew1 (pr_below (g := w.heap.size + 1) (g2 := w.heap.size + 1 + 1) HB.out (by omega) (by omega) _ _ _ _ _ _ _ _)
   ·
    have e61 : ((c.toNat : Int) == 61) = false := by rw [show (61 : Int) = ((61 : Nat) : Int) from rfl, c_eq (by decide)]; simpa using h61
    by_cases h94 : c = 94
    ·
     have HP := HPR.out
     rw [if_neg (by simpa using h61), if_pos (by rw [h94]; rfl)] at HP
     have HP := mk0 HP
     have e94 : ((c.toNat : Int) == 94) = true := by rw [h94]; rfl
     clear h61 h94
     have hm := fun w => rmark_calls s ⟨#[94, 61]⟩ ⟨c :: r, none⟩ w hs (by decide) HOK.out
     have hs2 := fun w => rstr_calls s (markS [94, 61] ⟨c :: r, none⟩) w hs (markS_ok HOK.out)
     rw [HSV.out, show bytes (⟨#[94, 61]⟩ : ByteArray) = [94, 61] from rfl] at hm
     generalize markS [94, 61] ⟨c :: r, none⟩ = sm at hm hs2 HP
     generalize textS sm = t at hs2 HP
     have HM := mk0 hm
     obtain ⟨i3, hi3⟩ : ∃ x, x = spI s t.2 := ⟨_, rfl⟩
     obtain ⟨b3, hb3⟩ : ∃ x, x = t.2.bad.isSome := ⟨_, rfl⟩
     have HST3 : Aside0 (stV s t.2 = .agg #[.string s, .int .i64 i3, .bool b3]) := ⟨by rw [hi3, hb3]; rfl⟩
     unfold strRV at hs2
     rw [HST3.out] at hs2
     have HS2 := mk0 hs2
     clear hm hs2 hi3 hb3
     obtain ⟨c0, c1, c2, f0, f1, f2⟩ := spot_cells KB1.out
     obtain ⟨d0, d1, d2, g0, g1, g2⟩ := spot_cells KB2.out
     obtain ⟨p0, p1, p2, p3, p4, r0, r1, r2, r3, r4⟩ := prc_cells KB3.out
     obtain ⟨x0, x1, x2, x3, x4, y0, y1, y2, y3, y4⟩ := prc_cells KB5.out
     go_wp2_with fail
     refine (HM.out _).mono ?_
     rintro e w6 ⟨rfl, hb⟩
     clear c0 c1 c2 f0 f1 f2 d0 d1 d2 g0 g1 g2
     clear p0 p1 p2 p3 p4 r0 r1 r2 r3 r4 x0 x1 x2 x3 x4 y0 y1 y2 y3 y4
     have k1_ := mk0 ((hb.block _ (blk_lt KB1.out)).trans KB1.out)
     have k2_ := mk0 ((hb.block _ (blk_lt KB2.out)).trans KB2.out)
     have k3_ := mk0 ((hb.block _ (blk_lt KB3.out)).trans KB3.out)
     have k5_ := mk0 ((hb.block _ (blk_lt KB5.out)).trans KB5.out)
     have n_ := mk0 (below_then HB.out HB.out.size hb)
     clear KB1 KB2 KB3 KB5 HB hb
     have KB1 := k1_
     have KB2 := k2_
     have KB3 := k3_
     have KB5 := k5_
     have HB := n_
     clear k1_ k2_ k3_ k5_ n_
     obtain ⟨c0, c1, c2, f0, f1, f2⟩ := spot_cells KB1.out
     obtain ⟨d0, d1, d2, g0, g1, g2⟩ := spot_cells KB2.out
     obtain ⟨p0, p1, p2, p3, p4, r0, r1, r2, r3, r4⟩ := prc_cells KB3.out
     obtain ⟨x0, x1, x2, x3, x4, y0, y1, y2, y3, y4⟩ := prc_cells KB5.out
     go_wp2_with fail
     refine (HS2.out _).mono ?_
     rintro e w7 ⟨rfl, hb⟩
     clear c0 c1 c2 f0 f1 f2 d0 d1 d2 g0 g1 g2
     clear p0 p1 p2 p3 p4 r0 r1 r2 r3 r4 x0 x1 x2 x3 x4 y0 y1 y2 y3 y4
     have k1_ := mk0 ((hb.block _ (blk_lt KB1.out)).trans KB1.out)
     have k2_ := mk0 ((hb.block _ (blk_lt KB2.out)).trans KB2.out)
     have k3_ := mk0 ((hb.block _ (blk_lt KB3.out)).trans KB3.out)
     have k5_ := mk0 ((hb.block _ (blk_lt KB5.out)).trans KB5.out)
     have n_ := mk0 (below_then HB.out HB.out.size hb)
     clear KB1 KB2 KB3 KB5 HB hb
     have KB1 := k1_
     have KB2 := k2_
     have KB3 := k3_
     have KB5 := k5_
     have HB := n_
     clear k1_ k2_ k3_ k5_ n_
     obtain ⟨c0, c1, c2, f0, f1, f2⟩ := spot_cells KB1.out
     obtain ⟨d0, d1, d2, g0, g1, g2⟩ := spot_cells KB2.out
     obtain ⟨p0, p1, p2, p3, p4, r0, r1, r2, r3, r4⟩ := prc_cells KB3.out
     obtain ⟨x0, x1, x2, x3, x4, y0, y1, y2, y3, y4⟩ := prc_cells KB5.out
     go_upto_region 13 with (fail)
     clear c0 c1 c2 f0 f1 f2 d0 d1 d2 g0 g1 g2
     clear p0 p1 p2 p3 p4 r0 r1 r2 r3 r4 x0 x1 x2 x3 x4 y0 y1 y2 y3 y4
     have k1_ := mk0 ((Below.heap_alloc w7 (.cells #[.string s, .int .i64 i3, .bool b3] 177) _ (blk_lt KB1.out)).trans KB1.out)
     have k2_ := mk0 ((Below.heap_alloc w7 (.cells #[.string s, .int .i64 i3, .bool b3] 177) _ (blk_lt KB2.out)).trans KB2.out)
     have k3_ := mk0 ((Below.heap_alloc w7 (.cells #[.string s, .int .i64 i3, .bool b3] 177) _ (blk_lt KB3.out)).trans KB3.out)
     have k5_ := mk0 ((Below.heap_alloc w7 (.cells #[.string s, .int .i64 i3, .bool b3] 177) _ (blk_lt KB5.out)).trans KB5.out)
     have k6_ : Aside0 ((w7.alloc (.cells #[.string s, .int .i64 i3, .bool b3] 177)).heap[w7.heap.size]? = some (spotC s i3 b3)) := ⟨heap_alloc_new w7 _⟩
     have n_ := mk0 (below_alloc HB.out (.cells #[.string s, .int .i64 i3, .bool b3] 177))
     have l_ := mk0 (blk_lt KB5.out)
     clear KB1 KB2 KB3 KB5 HB
     have KB1 := k1_
     have KB2 := k2_
     have KB3 := k3_
     have KB5 := k5_
     have KB6 := k6_
     have HB := n_
     have HL6 := l_
     clear k1_ k2_ k3_ k5_ k6_ n_ l_
     generalize w7.alloc (.cells #[.string s, .int .i64 i3, .bool b3] 177) = w8 at KB1 KB2 KB3 KB5 KB6 HB ⊢
     generalize w7.heap.size = g6 at KB6 HL6 ⊢
     obtain ⟨c0, c1, c2, f0, f1, f2⟩ := spot_cells KB1.out
     obtain ⟨d0, d1, d2, g0, g1, g2⟩ := spot_cells KB2.out
     obtain ⟨p0, p1, p2, p3, p4, r0, r1, r2, r3, r4⟩ := prc_cells KB3.out
     obtain ⟨x0, x1, x2, x3, x4, y0, y1, y2, y3, y4⟩ := prc_cells KB5.out
     obtain ⟨z0, z1, z2, z3, z4, z5⟩ := spot_cells KB6.out
     go_upto_region 14 with (fail)
     clear c0 c1 c2 f0 f1 f2 d0 d1 d2 g0 g1 g2
     clear p0 p1 p2 p3 p4 r0 r1 r2 r3 r4 x0 x1 x2 x3 x4 y0 y1 y2 y3 y4
     clear z0 z1 z2 z3 z4 z5
     have k1_ := mk0 ((Below.heap_setCell w8 ⟨g5, 1, none⟩ (.int .i64 3) _ (show w.heap.size ≠ g5 by have := HL5.out; omega)).trans KB1.out)
     have k2_ := mk0 ((Below.heap_setCell w8 ⟨g5, 1, none⟩ (.int .i64 3) _ (show w.heap.size + 1 ≠ g5 by have := HL5.out; omega)).trans KB2.out)
     have k3_ := mk0 ((Below.heap_setCell w8 ⟨g5, 1, none⟩ (.int .i64 3) _ (show w.heap.size + 1 + 1 ≠ g5 by have := HL5.out; omega)).trans KB3.out)
     have k6_ := mk0 ((Below.heap_setCell w8 ⟨g5, 1, none⟩ (.int .i64 3) _ (show g6 ≠ g5 by have := HL6.out; omega)).trans KB6.out)
     have k5_ : Aside0 ((w8.setCell ⟨g5, 1, none⟩ (.int .i64 3)).heap[g5]? = some (prC nm 3 0 0 ⟨#[]⟩)) := ⟨by have := blk_set KB5.out 1 (.int .i64 3); simpa [prC] using this⟩
     have n_ := mk0 (HB.out.setCell (p := ⟨g5, 1, none⟩) (show w.heap.size ≤ g5 by have := HL5.out; omega) (.int .i64 3))
     clear KB1 KB2 KB3 KB5 KB6 HB
     have KB1 := k1_
     have KB2 := k2_
     have KB3 := k3_
     have KB5 := k5_
     have KB6 := k6_
     have HB := n_
     clear k1_ k2_ k3_ k5_ k6_ n_
     generalize w8.setCell ⟨g5, 1, none⟩ (.int .i64 3) = w9 at KB1 KB2 KB3 KB5 KB6 HB ⊢
     obtain ⟨c0, c1, c2, f0, f1, f2⟩ := spot_cells KB1.out
     obtain ⟨d0, d1, d2, g0, g1, g2⟩ := spot_cells KB2.out
     obtain ⟨p0, p1, p2, p3, p4, r0, r1, r2, r3, r4⟩ := prc_cells KB3.out
     obtain ⟨x0, x1, x2, x3, x4, y0, y1, y2, y3, y4⟩ := prc_cells KB5.out
     obtain ⟨z0, z1, z2, z3, z4, z5⟩ := spot_cells KB6.out
     go_upto_region 15 with (fail)
     clear c0 c1 c2 f0 f1 f2 d0 d1 d2 g0 g1 g2
     clear p0 p1 p2 p3 p4 r0 r1 r2 r3 r4 x0 x1 x2 x3 x4 y0 y1 y2 y3 y4
     clear z0 z1 z2 z3 z4 z5
     have k1_ := mk0 ((Below.heap_setCell w9 ⟨g5, 4, none⟩ (.string ⟨t.1.toArray⟩) _ (show w.heap.size ≠ g5 by have := HL5.out; omega)).trans KB1.out)
     have k2_ := mk0 ((Below.heap_setCell w9 ⟨g5, 4, none⟩ (.string ⟨t.1.toArray⟩) _ (show w.heap.size + 1 ≠ g5 by have := HL5.out; omega)).trans KB2.out)
     have k3_ := mk0 ((Below.heap_setCell w9 ⟨g5, 4, none⟩ (.string ⟨t.1.toArray⟩) _ (show w.heap.size + 1 + 1 ≠ g5 by have := HL5.out; omega)).trans KB3.out)
     have k6_ := mk0 ((Below.heap_setCell w9 ⟨g5, 4, none⟩ (.string ⟨t.1.toArray⟩) _ (show g6 ≠ g5 by have := HL6.out; omega)).trans KB6.out)
     have k5_ : Aside0 ((w9.setCell ⟨g5, 4, none⟩ (.string ⟨t.1.toArray⟩)).heap[g5]? = some (prC nm 3 0 0 ⟨t.1.toArray⟩)) := ⟨by have := blk_set KB5.out 4 (.string ⟨t.1.toArray⟩); simpa [prC] using this⟩
     have n_ := mk0 (HB.out.setCell (p := ⟨g5, 4, none⟩) (show w.heap.size ≤ g5 by have := HL5.out; omega) (.string ⟨t.1.toArray⟩))
     clear KB1 KB2 KB3 KB5 KB6 HB
     have KB1 := k1_
     have KB2 := k2_
     have KB3 := k3_
     have KB5 := k5_
     have KB6 := k6_
     have HB := n_
     clear k1_ k2_ k3_ k5_ k6_ n_
     generalize w9.setCell ⟨g5, 4, none⟩ (.string ⟨t.1.toArray⟩) = w10 at KB1 KB2 KB3 KB5 KB6 HB ⊢
     have ne4 : ¬ (w.heap.size + 1 + 1 = g6) := by have := HL5.out; have := HL6.out; omega
     have ne5 : ¬ (w.heap.size + 1 = g6) := by have := HL5.out; have := HL6.out; omega
     obtain ⟨c0, c1, c2, f0, f1, f2⟩ := spot_cells KB1.out
     obtain ⟨d0, d1, d2, g0, g1, g2⟩ := spot_cells KB2.out
     obtain ⟨p0, p1, p2, p3, p4, r0, r1, r2, r3, r4⟩ := prc_cells KB3.out
     obtain ⟨x0, x1, x2, x3, x4, y0, y1, y2, y3, y4⟩ := prc_cells KB5.out
     obtain ⟨z0, z1, z2, z3, z4, z5⟩ := spot_cells KB6.out
     go_region
     go_wp2_with fail
     refine bodyPost_ret (v := .tuple #[.agg #[.string s, .int .i64 i3, .bool b3], .agg #[.string nm, .int .i64 3, .int .i64 0, .int .i64 0, .string ⟨t.1.toArray⟩]]) (by simp [results, Tryz.results73, go_sem, d0, d1, d2, p0, p1, p2, p3, p4]) rfl ⟨_, rfl, ?_, ?_⟩
     ·
      rw [HPOST.out]
      exact ⟨⟨(wordS st).1, 3, 0, 0, t.1⟩, by rw [HP.out]; show _ = Value.tuple #[stV s t.2, prV _]; rw [HST3.out, ← HNM.out]; rfl, fun _ => by rw [HP.out]⟩
     ·
      exact below_drew1 (pr_below (g := w.heap.size + 1) (g2 := w.heap.size + 1 + 1) HB.out (by omega) (by omega) _ _ _ _ _ _ _ _)
    ·
     have e94 : ((c.toNat : Int) == 94) = false := by rw [show (94 : Int) = ((94 : Nat) : Int) from rfl, c_eq (by decide)]; simpa using h94
     have HP := HPR.out
     rw [if_neg (by simpa using h61), if_neg (by simpa using h94)] at HP
     have HP := mk0 HP
     clear h61 h94
     generalize c :: r = L0 at HP HOK HSV HLI HD
     have hw2 := fun w => rword_calls s ⟨L0, none⟩ w hs HOK.out
     rw [HSV.out] at hw2
     generalize hA : wordS ⟨L0, none⟩ = a at hw2
     have hoka : a.2.ok (bytes s) := by rw [← hA]; exact wordS_ok HOK.out
     obtain ⟨i3, hi3⟩ : ∃ x, x = spI s a.2 := ⟨_, rfl⟩
     obtain ⟨b3, hb3⟩ : ∃ x, x = a.2.bad.isSome := ⟨_, rfl⟩
     have HST3 : Aside0 (stV s a.2 = .agg #[.string s, .int .i64 i3, .bool b3]) := ⟨by rw [hi3, hb3]; rfl⟩
     rw [HST3.out] at hw2
     have HW2 := mk0 hw2
     have HA := mk0 hA
     have HOKA := mk0 hoka
     have HB3 := mk0 hb3
     clear hw2 hA hoka hi3 hb3
     cases ha : a.2.bad with
     | some n =>
      have hb3 : b3 = true := by rw [HB3.out, ha]; rfl
      subst hb3
      have hnil : a.1 = [] := by rw [← HA.out]; exact wordS_nil (by rw [HA.out]; exact ha)
      have HBE := mk0 (show (if a.1 = [105, 110] then a.2 else stopS a.2 L0.length) = a.2 by rw [if_neg (by rw [hnil]; simp), stopS_bad ha])
      clear ha hnil
      obtain ⟨c0, c1, c2, f0, f1, f2⟩ := spot_cells KB1.out
      obtain ⟨d0, d1, d2, g0, g1, g2⟩ := spot_cells KB2.out
      obtain ⟨p0, p1, p2, p3, p4, r0, r1, r2, r3, r4⟩ := prc_cells KB3.out
      obtain ⟨x0, x1, x2, x3, x4, y0, y1, y2, y3, y4⟩ := prc_cells KB5.out
      go_wp2_with fail
      refine (HW2.out _).mono ?_
      rintro e w6 ⟨rfl, hb⟩
      clear c0 c1 c2 f0 f1 f2 d0 d1 d2 g0 g1 g2
      clear p0 p1 p2 p3 p4 r0 r1 r2 r3 r4 x0 x1 x2 x3 x4 y0 y1 y2 y3 y4
      have k1_ := mk0 ((hb.block _ (blk_lt KB1.out)).trans KB1.out)
      have k2_ := mk0 ((hb.block _ (blk_lt KB2.out)).trans KB2.out)
      have k3_ := mk0 ((hb.block _ (blk_lt KB3.out)).trans KB3.out)
      have k5_ := mk0 ((hb.block _ (blk_lt KB5.out)).trans KB5.out)
      have n_ := mk0 (below_then HB.out HB.out.size hb)
      clear KB1 KB2 KB3 KB5 HB hb
      have KB1 := k1_
      have KB2 := k2_
      have KB3 := k3_
      have KB5 := k5_
      have HB := n_
      clear k1_ k2_ k3_ k5_ n_
      obtain ⟨c0, c1, c2, f0, f1, f2⟩ := spot_cells KB1.out
      obtain ⟨d0, d1, d2, g0, g1, g2⟩ := spot_cells KB2.out
      obtain ⟨p0, p1, p2, p3, p4, r0, r1, r2, r3, r4⟩ := prc_cells KB3.out
      obtain ⟨x0, x1, x2, x3, x4, y0, y1, y2, y3, y4⟩ := prc_cells KB5.out
      go_upto_region 17 with (fail)
      clear c0 c1 c2 f0 f1 f2 d0 d1 d2 g0 g1 g2
      clear p0 p1 p2 p3 p4 r0 r1 r2 r3 r4 x0 x1 x2 x3 x4 y0 y1 y2 y3 y4
      have k1_ := mk0 ((Below.heap_alloc w6 (.cells #[.string s, .int .i64 i3, .bool true] 177) _ (blk_lt KB1.out)).trans KB1.out)
      have k2_ := mk0 ((Below.heap_alloc w6 (.cells #[.string s, .int .i64 i3, .bool true] 177) _ (blk_lt KB2.out)).trans KB2.out)
      have k3_ := mk0 ((Below.heap_alloc w6 (.cells #[.string s, .int .i64 i3, .bool true] 177) _ (blk_lt KB3.out)).trans KB3.out)
      have k5_ := mk0 ((Below.heap_alloc w6 (.cells #[.string s, .int .i64 i3, .bool true] 177) _ (blk_lt KB5.out)).trans KB5.out)
      have k6_ : Aside0 ((w6.alloc (.cells #[.string s, .int .i64 i3, .bool true] 177)).heap[w6.heap.size]? = some (spotC s i3 true)) := ⟨heap_alloc_new w6 _⟩
      have n_ := mk0 (below_alloc HB.out (.cells #[.string s, .int .i64 i3, .bool true] 177))
      have l_ := mk0 (blk_lt KB5.out)
      clear KB1 KB2 KB3 KB5 HB
      have KB1 := k1_
      have KB2 := k2_
      have KB3 := k3_
      have KB5 := k5_
      have KB10 := k6_
      have HB := n_
      have HL10 := l_
      clear k1_ k2_ k3_ k5_ k6_ n_ l_
      generalize w6.alloc (.cells #[.string s, .int .i64 i3, .bool true] 177) = w7 at KB1 KB2 KB3 KB5 KB10 HB ⊢
      generalize w6.heap.size = g10 at KB10 HL10 ⊢
      obtain ⟨c0, c1, c2, f0, f1, f2⟩ := spot_cells KB1.out
      obtain ⟨d0, d1, d2, g0, g1, g2⟩ := spot_cells KB2.out
      obtain ⟨p0, p1, p2, p3, p4, r0, r1, r2, r3, r4⟩ := prc_cells KB3.out
      obtain ⟨x0, x1, x2, x3, x4, y0, y1, y2, y3, y4⟩ := prc_cells KB5.out
      obtain ⟨z0, z1, z2, z3, z4, z5⟩ := spot_cells KB10.out
      have hn1 := fun w => rnumber_calls s a.2 w hs HOKA.out
      rw [HST3.out] at hn1
      have hokq := numberS_ok HOKA.out
      generalize hq1 : numberS a.2 = q1 at hn1 hokq
      have HQ1 := mk0 hq1
      obtain ⟨i4, hi4⟩ : ∃ x, x = spI s q1.2 := ⟨_, rfl⟩
      obtain ⟨b4, hb4⟩ : ∃ x, x = q1.2.bad.isSome := ⟨_, rfl⟩
      have HST4 : Aside0 (stV s q1.2 = .agg #[.string s, .int .i64 i4, .bool b4]) := ⟨by rw [hi4, hb4]; rfl⟩
      unfold numRV at hn1
      rw [HST4.out] at hn1
      obtain ⟨v1, hv1⟩ : ∃ v, v = (if q1.2.bad.isSome then 0 else q1.1) := ⟨_, rfl⟩
      rw [← hv1] at hn1
      have HV1 := mk0 hv1
      have HN1 := mk0 hn1
      have hm := fun w => rmark_calls s ⟨#[46, 46]⟩ q1.2 w hs (by decide) hokq
      rw [HST4.out, show bytes (⟨#[46, 46]⟩ : ByteArray) = [46, 46] from rfl] at hm
      have hokm := markS_ok (m := [46, 46]) hokq
      generalize hsm : markS [46, 46] q1.2 = sm at hm hokm
      have HSM := mk0 hsm
      have HM := mk0 hm
      have hn2 := fun w => rnumber_calls s sm w hs hokm
      generalize hq2 : numberS sm = q2 at hn2
      have HQ2 := mk0 hq2
      obtain ⟨i5, hi5⟩ : ∃ x, x = spI s q2.2 := ⟨_, rfl⟩
      obtain ⟨b5, hb5⟩ : ∃ x, x = q2.2.bad.isSome := ⟨_, rfl⟩
      have HST5 : Aside0 (stV s q2.2 = .agg #[.string s, .int .i64 i5, .bool b5]) := ⟨by rw [hi5, hb5]; rfl⟩
      unfold numRV at hn2
      rw [HST5.out] at hn2
      obtain ⟨v2, hv2⟩ : ∃ v, v = (if q2.2.bad.isSome then 0 else q2.1) := ⟨_, rfl⟩
      rw [← hv2] at hn2
      have HV2 := mk0 hv2
      have HN2 := mk0 hn2
      clear hn1 hokq hq1 hi4 hb4 hv1 hm hokm hsm hn2 hq2 hi5 hb5 hv2
      go_wp2_with fail
      refine (HN1.out _).mono ?_
      rintro e w8 ⟨rfl, hb⟩
      clear z0 z1 z2 z3 z4 z5 KB10
      clear c0 c1 c2 f0 f1 f2 d0 d1 d2 g0 g1 g2
      clear p0 p1 p2 p3 p4 r0 r1 r2 r3 r4 x0 x1 x2 x3 x4 y0 y1 y2 y3 y4
      have k1_ := mk0 ((hb.block _ (blk_lt KB1.out)).trans KB1.out)
      have k2_ := mk0 ((hb.block _ (blk_lt KB2.out)).trans KB2.out)
      have k3_ := mk0 ((hb.block _ (blk_lt KB3.out)).trans KB3.out)
      have k5_ := mk0 ((hb.block _ (blk_lt KB5.out)).trans KB5.out)
      have n_ := mk0 (below_then HB.out HB.out.size hb)
      clear KB1 KB2 KB3 KB5 HB hb
      have KB1 := k1_
      have KB2 := k2_
      have KB3 := k3_
      have KB5 := k5_
      have HB := n_
      clear k1_ k2_ k3_ k5_ n_
      obtain ⟨c0, c1, c2, f0, f1, f2⟩ := spot_cells KB1.out
      obtain ⟨d0, d1, d2, g0, g1, g2⟩ := spot_cells KB2.out
      obtain ⟨p0, p1, p2, p3, p4, r0, r1, r2, r3, r4⟩ := prc_cells KB3.out
      obtain ⟨x0, x1, x2, x3, x4, y0, y1, y2, y3, y4⟩ := prc_cells KB5.out
      go_upto_region 20 with (fail)
      clear c0 c1 c2 f0 f1 f2 d0 d1 d2 g0 g1 g2
      clear p0 p1 p2 p3 p4 r0 r1 r2 r3 r4 x0 x1 x2 x3 x4 y0 y1 y2 y3 y4
      have k1_ := mk0 ((Below.heap_alloc w8 (.cells #[.string s, .int .i64 i4, .bool b4] 177) _ (blk_lt KB1.out)).trans KB1.out)
      have k2_ := mk0 ((Below.heap_alloc w8 (.cells #[.string s, .int .i64 i4, .bool b4] 177) _ (blk_lt KB2.out)).trans KB2.out)
      have k3_ := mk0 ((Below.heap_alloc w8 (.cells #[.string s, .int .i64 i4, .bool b4] 177) _ (blk_lt KB3.out)).trans KB3.out)
      have k5_ := mk0 ((Below.heap_alloc w8 (.cells #[.string s, .int .i64 i4, .bool b4] 177) _ (blk_lt KB5.out)).trans KB5.out)
      have k6_ : Aside0 ((w8.alloc (.cells #[.string s, .int .i64 i4, .bool b4] 177)).heap[w8.heap.size]? = some (spotC s i4 b4)) := ⟨heap_alloc_new w8 _⟩
      have n_ := mk0 (below_alloc HB.out (.cells #[.string s, .int .i64 i4, .bool b4] 177))
      have l_ := mk0 (blk_lt KB5.out)
      clear KB1 KB2 KB3 KB5 HB
      have KB1 := k1_
      have KB2 := k2_
      have KB3 := k3_
      have KB5 := k5_
      have KB12 := k6_
      have HB := n_
      have HL12 := l_
      clear k1_ k2_ k3_ k5_ k6_ n_ l_
      generalize w8.alloc (.cells #[.string s, .int .i64 i4, .bool b4] 177) = w9 at KB1 KB2 KB3 KB5 KB12 HB ⊢
      generalize w8.heap.size = g12 at KB12 HL12 ⊢
      obtain ⟨c0, c1, c2, f0, f1, f2⟩ := spot_cells KB1.out
      obtain ⟨d0, d1, d2, g0, g1, g2⟩ := spot_cells KB2.out
      obtain ⟨p0, p1, p2, p3, p4, r0, r1, r2, r3, r4⟩ := prc_cells KB3.out
      obtain ⟨x0, x1, x2, x3, x4, y0, y1, y2, y3, y4⟩ := prc_cells KB5.out
      obtain ⟨z0, z1, z2, z3, z4, z5⟩ := spot_cells KB12.out
      go_wp2_with fail
      refine (HM.out _).mono ?_
      rintro e w10 ⟨rfl, hb⟩
      clear z0 z1 z2 z3 z4 z5 KB12
      clear c0 c1 c2 f0 f1 f2 d0 d1 d2 g0 g1 g2
      clear p0 p1 p2 p3 p4 r0 r1 r2 r3 r4 x0 x1 x2 x3 x4 y0 y1 y2 y3 y4
      have k1_ := mk0 ((hb.block _ (blk_lt KB1.out)).trans KB1.out)
      have k2_ := mk0 ((hb.block _ (blk_lt KB2.out)).trans KB2.out)
      have k3_ := mk0 ((hb.block _ (blk_lt KB3.out)).trans KB3.out)
      have k5_ := mk0 ((hb.block _ (blk_lt KB5.out)).trans KB5.out)
      have n_ := mk0 (below_then HB.out HB.out.size hb)
      clear KB1 KB2 KB3 KB5 HB hb
      have KB1 := k1_
      have KB2 := k2_
      have KB3 := k3_
      have KB5 := k5_
      have HB := n_
      clear k1_ k2_ k3_ k5_ n_
      obtain ⟨c0, c1, c2, f0, f1, f2⟩ := spot_cells KB1.out
      obtain ⟨d0, d1, d2, g0, g1, g2⟩ := spot_cells KB2.out
      obtain ⟨p0, p1, p2, p3, p4, r0, r1, r2, r3, r4⟩ := prc_cells KB3.out
      obtain ⟨x0, x1, x2, x3, x4, y0, y1, y2, y3, y4⟩ := prc_cells KB5.out
      go_wp2_with fail
      refine (HN2.out _).mono ?_
      rintro e w11 ⟨rfl, hb⟩
      clear c0 c1 c2 f0 f1 f2 d0 d1 d2 g0 g1 g2
      clear p0 p1 p2 p3 p4 r0 r1 r2 r3 r4 x0 x1 x2 x3 x4 y0 y1 y2 y3 y4
      have k1_ := mk0 ((hb.block _ (blk_lt KB1.out)).trans KB1.out)
      have k2_ := mk0 ((hb.block _ (blk_lt KB2.out)).trans KB2.out)
      have k3_ := mk0 ((hb.block _ (blk_lt KB3.out)).trans KB3.out)
      have k5_ := mk0 ((hb.block _ (blk_lt KB5.out)).trans KB5.out)
      have n_ := mk0 (below_then HB.out HB.out.size hb)
      clear KB1 KB2 KB3 KB5 HB hb
      have KB1 := k1_
      have KB2 := k2_
      have KB3 := k3_
      have KB5 := k5_
      have HB := n_
      clear k1_ k2_ k3_ k5_ n_
      obtain ⟨c0, c1, c2, f0, f1, f2⟩ := spot_cells KB1.out
      obtain ⟨d0, d1, d2, g0, g1, g2⟩ := spot_cells KB2.out
      obtain ⟨p0, p1, p2, p3, p4, r0, r1, r2, r3, r4⟩ := prc_cells KB3.out
      obtain ⟨x0, x1, x2, x3, x4, y0, y1, y2, y3, y4⟩ := prc_cells KB5.out
      go_upto_region 21 with (fail)
      clear c0 c1 c2 f0 f1 f2 d0 d1 d2 g0 g1 g2
      clear p0 p1 p2 p3 p4 r0 r1 r2 r3 r4 x0 x1 x2 x3 x4 y0 y1 y2 y3 y4
      have k1_ := mk0 ((Below.heap_alloc w11 (.cells #[.string s, .int .i64 i5, .bool b5] 177) _ (blk_lt KB1.out)).trans KB1.out)
      have k2_ := mk0 ((Below.heap_alloc w11 (.cells #[.string s, .int .i64 i5, .bool b5] 177) _ (blk_lt KB2.out)).trans KB2.out)
      have k3_ := mk0 ((Below.heap_alloc w11 (.cells #[.string s, .int .i64 i5, .bool b5] 177) _ (blk_lt KB3.out)).trans KB3.out)
      have k5_ := mk0 ((Below.heap_alloc w11 (.cells #[.string s, .int .i64 i5, .bool b5] 177) _ (blk_lt KB5.out)).trans KB5.out)
      have k6_ : Aside0 ((w11.alloc (.cells #[.string s, .int .i64 i5, .bool b5] 177)).heap[w11.heap.size]? = some (spotC s i5 b5)) := ⟨heap_alloc_new w11 _⟩
      have n_ := mk0 (below_alloc HB.out (.cells #[.string s, .int .i64 i5, .bool b5] 177))
      have l_ := mk0 (blk_lt KB5.out)
      clear KB1 KB2 KB3 KB5 HB
      have KB1 := k1_
      have KB2 := k2_
      have KB3 := k3_
      have KB5 := k5_
      have KB6 := k6_
      have HB := n_
      have HL6 := l_
      clear k1_ k2_ k3_ k5_ k6_ n_ l_
      generalize w11.alloc (.cells #[.string s, .int .i64 i5, .bool b5] 177) = w12 at KB1 KB2 KB3 KB5 KB6 HB ⊢
      generalize w11.heap.size = g6 at KB6 HL6 ⊢
      obtain ⟨c0, c1, c2, f0, f1, f2⟩ := spot_cells KB1.out
      obtain ⟨d0, d1, d2, g0, g1, g2⟩ := spot_cells KB2.out
      obtain ⟨p0, p1, p2, p3, p4, r0, r1, r2, r3, r4⟩ := prc_cells KB3.out
      obtain ⟨x0, x1, x2, x3, x4, y0, y1, y2, y3, y4⟩ := prc_cells KB5.out
      obtain ⟨z0, z1, z2, z3, z4, z5⟩ := spot_cells KB6.out
      go_upto_region 22 with (fail)
      clear c0 c1 c2 f0 f1 f2 d0 d1 d2 g0 g1 g2
      clear p0 p1 p2 p3 p4 r0 r1 r2 r3 r4 x0 x1 x2 x3 x4 y0 y1 y2 y3 y4
      clear z0 z1 z2 z3 z4 z5
      have k1_ := mk0 ((Below.heap_setCell w12 ⟨g5, 1, none⟩ (.int .i64 1) _ (show w.heap.size ≠ g5 by have := HL5.out; omega)).trans KB1.out)
      have k2_ := mk0 ((Below.heap_setCell w12 ⟨g5, 1, none⟩ (.int .i64 1) _ (show w.heap.size + 1 ≠ g5 by have := HL5.out; omega)).trans KB2.out)
      have k3_ := mk0 ((Below.heap_setCell w12 ⟨g5, 1, none⟩ (.int .i64 1) _ (show w.heap.size + 1 + 1 ≠ g5 by have := HL5.out; omega)).trans KB3.out)
      have k6_ := mk0 ((Below.heap_setCell w12 ⟨g5, 1, none⟩ (.int .i64 1) _ (show g6 ≠ g5 by have := HL6.out; omega)).trans KB6.out)
      have k5_ : Aside0 ((w12.setCell ⟨g5, 1, none⟩ (.int .i64 1)).heap[g5]? = some (prC nm 1 0 0 ⟨#[]⟩)) := ⟨by have := blk_set KB5.out 1 (.int .i64 1); simpa [prC] using this⟩
      have n_ := mk0 (HB.out.setCell (p := ⟨g5, 1, none⟩) (show w.heap.size ≤ g5 by have := HL5.out; omega) (.int .i64 1))
      clear KB1 KB2 KB3 KB5 KB6 HB
      have KB1 := k1_
      have KB2 := k2_
      have KB3 := k3_
      have KB5 := k5_
      have KB6 := k6_
      have HB := n_
      clear k1_ k2_ k3_ k5_ k6_ n_
      generalize w12.setCell ⟨g5, 1, none⟩ (.int .i64 1) = w13 at KB1 KB2 KB3 KB5 KB6 HB ⊢
      obtain ⟨c0, c1, c2, f0, f1, f2⟩ := spot_cells KB1.out
      obtain ⟨d0, d1, d2, g0, g1, g2⟩ := spot_cells KB2.out
      obtain ⟨p0, p1, p2, p3, p4, r0, r1, r2, r3, r4⟩ := prc_cells KB3.out
      obtain ⟨x0, x1, x2, x3, x4, y0, y1, y2, y3, y4⟩ := prc_cells KB5.out
      obtain ⟨z0, z1, z2, z3, z4, z5⟩ := spot_cells KB6.out
      go_upto_region 23 with (fail)
      clear c0 c1 c2 f0 f1 f2 d0 d1 d2 g0 g1 g2
      clear p0 p1 p2 p3 p4 r0 r1 r2 r3 r4 x0 x1 x2 x3 x4 y0 y1 y2 y3 y4
      clear z0 z1 z2 z3 z4 z5
      have k1_ := mk0 ((Below.heap_setCell w13 ⟨g5, 2, none⟩ (.int .i64 v1) _ (show w.heap.size ≠ g5 by have := HL5.out; omega)).trans KB1.out)
      have k2_ := mk0 ((Below.heap_setCell w13 ⟨g5, 2, none⟩ (.int .i64 v1) _ (show w.heap.size + 1 ≠ g5 by have := HL5.out; omega)).trans KB2.out)
      have k3_ := mk0 ((Below.heap_setCell w13 ⟨g5, 2, none⟩ (.int .i64 v1) _ (show w.heap.size + 1 + 1 ≠ g5 by have := HL5.out; omega)).trans KB3.out)
      have k6_ := mk0 ((Below.heap_setCell w13 ⟨g5, 2, none⟩ (.int .i64 v1) _ (show g6 ≠ g5 by have := HL6.out; omega)).trans KB6.out)
      have k5_ : Aside0 ((w13.setCell ⟨g5, 2, none⟩ (.int .i64 v1)).heap[g5]? = some (prC nm 1 v1 0 ⟨#[]⟩)) := ⟨by have := blk_set KB5.out 2 (.int .i64 v1); simpa [prC] using this⟩
      have n_ := mk0 (HB.out.setCell (p := ⟨g5, 2, none⟩) (show w.heap.size ≤ g5 by have := HL5.out; omega) (.int .i64 v1))
      clear KB1 KB2 KB3 KB5 KB6 HB
      have KB1 := k1_
      have KB2 := k2_
      have KB3 := k3_
      have KB5 := k5_
      have KB6 := k6_
      have HB := n_
      clear k1_ k2_ k3_ k5_ k6_ n_
      generalize w13.setCell ⟨g5, 2, none⟩ (.int .i64 v1) = w14 at KB1 KB2 KB3 KB5 KB6 HB ⊢
      obtain ⟨c0, c1, c2, f0, f1, f2⟩ := spot_cells KB1.out
      obtain ⟨d0, d1, d2, g0, g1, g2⟩ := spot_cells KB2.out
      obtain ⟨p0, p1, p2, p3, p4, r0, r1, r2, r3, r4⟩ := prc_cells KB3.out
      obtain ⟨x0, x1, x2, x3, x4, y0, y1, y2, y3, y4⟩ := prc_cells KB5.out
      obtain ⟨z0, z1, z2, z3, z4, z5⟩ := spot_cells KB6.out
      go_upto_region 24 with (fail)
      clear c0 c1 c2 f0 f1 f2 d0 d1 d2 g0 g1 g2
      clear p0 p1 p2 p3 p4 r0 r1 r2 r3 r4 x0 x1 x2 x3 x4 y0 y1 y2 y3 y4
      clear z0 z1 z2 z3 z4 z5
      have k1_ := mk0 ((Below.heap_setCell w14 ⟨g5, 3, none⟩ (.int .i64 v2) _ (show w.heap.size ≠ g5 by have := HL5.out; omega)).trans KB1.out)
      have k2_ := mk0 ((Below.heap_setCell w14 ⟨g5, 3, none⟩ (.int .i64 v2) _ (show w.heap.size + 1 ≠ g5 by have := HL5.out; omega)).trans KB2.out)
      have k3_ := mk0 ((Below.heap_setCell w14 ⟨g5, 3, none⟩ (.int .i64 v2) _ (show w.heap.size + 1 + 1 ≠ g5 by have := HL5.out; omega)).trans KB3.out)
      have k6_ := mk0 ((Below.heap_setCell w14 ⟨g5, 3, none⟩ (.int .i64 v2) _ (show g6 ≠ g5 by have := HL6.out; omega)).trans KB6.out)
      have k5_ : Aside0 ((w14.setCell ⟨g5, 3, none⟩ (.int .i64 v2)).heap[g5]? = some (prC nm 1 v1 v2 ⟨#[]⟩)) := ⟨by have := blk_set KB5.out 3 (.int .i64 v2); simpa [prC] using this⟩
      have n_ := mk0 (HB.out.setCell (p := ⟨g5, 3, none⟩) (show w.heap.size ≤ g5 by have := HL5.out; omega) (.int .i64 v2))
      clear KB1 KB2 KB3 KB5 KB6 HB
      have KB1 := k1_
      have KB2 := k2_
      have KB3 := k3_
      have KB5 := k5_
      have KB6 := k6_
      have HB := n_
      clear k1_ k2_ k3_ k5_ k6_ n_
      generalize w14.setCell ⟨g5, 3, none⟩ (.int .i64 v2) = w15 at KB1 KB2 KB3 KB5 KB6 HB ⊢
      have ne4 : ¬ (w.heap.size + 1 + 1 = g6) := by have := HL5.out; have := HL6.out; omega
      have ne5 : ¬ (w.heap.size + 1 = g6) := by have := HL5.out; have := HL6.out; omega
      obtain ⟨c0, c1, c2, f0, f1, f2⟩ := spot_cells KB1.out
      obtain ⟨d0, d1, d2, g0, g1, g2⟩ := spot_cells KB2.out
      obtain ⟨p0, p1, p2, p3, p4, r0, r1, r2, r3, r4⟩ := prc_cells KB3.out
      obtain ⟨x0, x1, x2, x3, x4, y0, y1, y2, y3, y4⟩ := prc_cells KB5.out
      obtain ⟨z0, z1, z2, z3, z4, z5⟩ := spot_cells KB6.out
      go_region
      go_wp2_with fail
      refine bodyPost_ret (v := .tuple #[.agg #[.string s, .int .i64 i5, .bool b5], .agg #[.string nm, .int .i64 1, .int .i64 v1, .int .i64 v2, .string ⟨#[]⟩]]) (by simp [results, Tryz.results73, go_sem, d0, d1, d2, p0, p1, p2, p3, p4]) rfl ⟨_, rfl, ?_, ?_⟩
      ·
       rw [HPOST.out]
       exact in_post HP.out HA.out HBE.out HQ1.out HSM.out HQ2.out HST5.out HV1.out HV2.out HNM.out
      ·
       exact below_drew1 (pr_below (g := w.heap.size + 1) (g2 := w.heap.size + 1 + 1) HB.out (by omega) (by omega) _ _ _ _ _ _ _ _)
     | none =>
      have hb3 : b3 = false := by rw [HB3.out, ha]; rfl
      subst hb3
      by_cases hin : a.1 = [105, 110]
      ·
       have HBE := mk0 (show (if a.1 = [105, 110] then a.2 else stopS a.2 L0.length) = a.2 by rw [if_pos hin])
       have q9 : (a.1 == [105, 110]) = true := by simpa using hin
       clear ha hin
       obtain ⟨c0, c1, c2, f0, f1, f2⟩ := spot_cells KB1.out
       obtain ⟨d0, d1, d2, g0, g1, g2⟩ := spot_cells KB2.out
       obtain ⟨p0, p1, p2, p3, p4, r0, r1, r2, r3, r4⟩ := prc_cells KB3.out
       obtain ⟨x0, x1, x2, x3, x4, y0, y1, y2, y3, y4⟩ := prc_cells KB5.out
       go_wp2_with fail
       refine (HW2.out _).mono ?_
       rintro e w6 ⟨rfl, hb⟩
       clear c0 c1 c2 f0 f1 f2 d0 d1 d2 g0 g1 g2
       clear p0 p1 p2 p3 p4 r0 r1 r2 r3 r4 x0 x1 x2 x3 x4 y0 y1 y2 y3 y4
       have k1_ := mk0 ((hb.block _ (blk_lt KB1.out)).trans KB1.out)
       have k2_ := mk0 ((hb.block _ (blk_lt KB2.out)).trans KB2.out)
       have k3_ := mk0 ((hb.block _ (blk_lt KB3.out)).trans KB3.out)
       have k5_ := mk0 ((hb.block _ (blk_lt KB5.out)).trans KB5.out)
       have n_ := mk0 (below_then HB.out HB.out.size hb)
       clear KB1 KB2 KB3 KB5 HB hb
       have KB1 := k1_
       have KB2 := k2_
       have KB3 := k3_
       have KB5 := k5_
       have HB := n_
       clear k1_ k2_ k3_ k5_ n_
       obtain ⟨c0, c1, c2, f0, f1, f2⟩ := spot_cells KB1.out
       obtain ⟨d0, d1, d2, g0, g1, g2⟩ := spot_cells KB2.out
       obtain ⟨p0, p1, p2, p3, p4, r0, r1, r2, r3, r4⟩ := prc_cells KB3.out
       obtain ⟨x0, x1, x2, x3, x4, y0, y1, y2, y3, y4⟩ := prc_cells KB5.out
       go_upto_region 17 with (fail)
       clear c0 c1 c2 f0 f1 f2 d0 d1 d2 g0 g1 g2
       clear p0 p1 p2 p3 p4 r0 r1 r2 r3 r4 x0 x1 x2 x3 x4 y0 y1 y2 y3 y4
       have k1_ := mk0 ((Below.heap_alloc w6 (.cells #[.string s, .int .i64 i3, .bool false] 177) _ (blk_lt KB1.out)).trans KB1.out)
       have k2_ := mk0 ((Below.heap_alloc w6 (.cells #[.string s, .int .i64 i3, .bool false] 177) _ (blk_lt KB2.out)).trans KB2.out)
       have k3_ := mk0 ((Below.heap_alloc w6 (.cells #[.string s, .int .i64 i3, .bool false] 177) _ (blk_lt KB3.out)).trans KB3.out)
       have k5_ := mk0 ((Below.heap_alloc w6 (.cells #[.string s, .int .i64 i3, .bool false] 177) _ (blk_lt KB5.out)).trans KB5.out)
       have k6_ : Aside0 ((w6.alloc (.cells #[.string s, .int .i64 i3, .bool false] 177)).heap[w6.heap.size]? = some (spotC s i3 false)) := ⟨heap_alloc_new w6 _⟩
       have n_ := mk0 (below_alloc HB.out (.cells #[.string s, .int .i64 i3, .bool false] 177))
       have l_ := mk0 (blk_lt KB5.out)
       clear KB1 KB2 KB3 KB5 HB
       have KB1 := k1_
       have KB2 := k2_
       have KB3 := k3_
       have KB5 := k5_
       have KB10 := k6_
       have HB := n_
       have HL10 := l_
       clear k1_ k2_ k3_ k5_ k6_ n_ l_
       generalize w6.alloc (.cells #[.string s, .int .i64 i3, .bool false] 177) = w7 at KB1 KB2 KB3 KB5 KB10 HB ⊢
       generalize w6.heap.size = g10 at KB10 HL10 ⊢
       obtain ⟨c0, c1, c2, f0, f1, f2⟩ := spot_cells KB1.out
       obtain ⟨d0, d1, d2, g0, g1, g2⟩ := spot_cells KB2.out
       obtain ⟨p0, p1, p2, p3, p4, r0, r1, r2, r3, r4⟩ := prc_cells KB3.out
       obtain ⟨x0, x1, x2, x3, x4, y0, y1, y2, y3, y4⟩ := prc_cells KB5.out
       obtain ⟨z0, z1, z2, z3, z4, z5⟩ := spot_cells KB10.out
       have hn1 := fun w => rnumber_calls s a.2 w hs HOKA.out
       rw [HST3.out] at hn1
       have hokq := numberS_ok HOKA.out
       generalize hq1 : numberS a.2 = q1 at hn1 hokq
       have HQ1 := mk0 hq1
       obtain ⟨i4, hi4⟩ : ∃ x, x = spI s q1.2 := ⟨_, rfl⟩
       obtain ⟨b4, hb4⟩ : ∃ x, x = q1.2.bad.isSome := ⟨_, rfl⟩
       have HST4 : Aside0 (stV s q1.2 = .agg #[.string s, .int .i64 i4, .bool b4]) := ⟨by rw [hi4, hb4]; rfl⟩
       unfold numRV at hn1
       rw [HST4.out] at hn1
       obtain ⟨v1, hv1⟩ : ∃ v, v = (if q1.2.bad.isSome then 0 else q1.1) := ⟨_, rfl⟩
       rw [← hv1] at hn1
       have HV1 := mk0 hv1
       have HN1 := mk0 hn1
       have hm := fun w => rmark_calls s ⟨#[46, 46]⟩ q1.2 w hs (by decide) hokq
       rw [HST4.out, show bytes (⟨#[46, 46]⟩ : ByteArray) = [46, 46] from rfl] at hm
       have hokm := markS_ok (m := [46, 46]) hokq
       generalize hsm : markS [46, 46] q1.2 = sm at hm hokm
       have HSM := mk0 hsm
       have HM := mk0 hm
       have hn2 := fun w => rnumber_calls s sm w hs hokm
       generalize hq2 : numberS sm = q2 at hn2
       have HQ2 := mk0 hq2
       obtain ⟨i5, hi5⟩ : ∃ x, x = spI s q2.2 := ⟨_, rfl⟩
       obtain ⟨b5, hb5⟩ : ∃ x, x = q2.2.bad.isSome := ⟨_, rfl⟩
       have HST5 : Aside0 (stV s q2.2 = .agg #[.string s, .int .i64 i5, .bool b5]) := ⟨by rw [hi5, hb5]; rfl⟩
       unfold numRV at hn2
       rw [HST5.out] at hn2
       obtain ⟨v2, hv2⟩ : ∃ v, v = (if q2.2.bad.isSome then 0 else q2.1) := ⟨_, rfl⟩
       rw [← hv2] at hn2
       have HV2 := mk0 hv2
       have HN2 := mk0 hn2
       clear hn1 hokq hq1 hi4 hb4 hv1 hm hokm hsm hn2 hq2 hi5 hb5 hv2
       go_wp2_with fail
       refine (HN1.out _).mono ?_
       rintro e w8 ⟨rfl, hb⟩
       clear z0 z1 z2 z3 z4 z5 KB10
       clear c0 c1 c2 f0 f1 f2 d0 d1 d2 g0 g1 g2
       clear p0 p1 p2 p3 p4 r0 r1 r2 r3 r4 x0 x1 x2 x3 x4 y0 y1 y2 y3 y4
       have k1_ := mk0 ((hb.block _ (blk_lt KB1.out)).trans KB1.out)
       have k2_ := mk0 ((hb.block _ (blk_lt KB2.out)).trans KB2.out)
       have k3_ := mk0 ((hb.block _ (blk_lt KB3.out)).trans KB3.out)
       have k5_ := mk0 ((hb.block _ (blk_lt KB5.out)).trans KB5.out)
       have n_ := mk0 (below_then HB.out HB.out.size hb)
       clear KB1 KB2 KB3 KB5 HB hb
       have KB1 := k1_
       have KB2 := k2_
       have KB3 := k3_
       have KB5 := k5_
       have HB := n_
       clear k1_ k2_ k3_ k5_ n_
       obtain ⟨c0, c1, c2, f0, f1, f2⟩ := spot_cells KB1.out
       obtain ⟨d0, d1, d2, g0, g1, g2⟩ := spot_cells KB2.out
       obtain ⟨p0, p1, p2, p3, p4, r0, r1, r2, r3, r4⟩ := prc_cells KB3.out
       obtain ⟨x0, x1, x2, x3, x4, y0, y1, y2, y3, y4⟩ := prc_cells KB5.out
       go_upto_region 20 with (fail)
       clear c0 c1 c2 f0 f1 f2 d0 d1 d2 g0 g1 g2
       clear p0 p1 p2 p3 p4 r0 r1 r2 r3 r4 x0 x1 x2 x3 x4 y0 y1 y2 y3 y4
       have k1_ := mk0 ((Below.heap_alloc w8 (.cells #[.string s, .int .i64 i4, .bool b4] 177) _ (blk_lt KB1.out)).trans KB1.out)
       have k2_ := mk0 ((Below.heap_alloc w8 (.cells #[.string s, .int .i64 i4, .bool b4] 177) _ (blk_lt KB2.out)).trans KB2.out)
       have k3_ := mk0 ((Below.heap_alloc w8 (.cells #[.string s, .int .i64 i4, .bool b4] 177) _ (blk_lt KB3.out)).trans KB3.out)
       have k5_ := mk0 ((Below.heap_alloc w8 (.cells #[.string s, .int .i64 i4, .bool b4] 177) _ (blk_lt KB5.out)).trans KB5.out)
       have k6_ : Aside0 ((w8.alloc (.cells #[.string s, .int .i64 i4, .bool b4] 177)).heap[w8.heap.size]? = some (spotC s i4 b4)) := ⟨heap_alloc_new w8 _⟩
       have n_ := mk0 (below_alloc HB.out (.cells #[.string s, .int .i64 i4, .bool b4] 177))
       have l_ := mk0 (blk_lt KB5.out)
       clear KB1 KB2 KB3 KB5 HB
       have KB1 := k1_
       have KB2 := k2_
       have KB3 := k3_
       have KB5 := k5_
       have KB12 := k6_
       have HB := n_
       have HL12 := l_
       clear k1_ k2_ k3_ k5_ k6_ n_ l_
       generalize w8.alloc (.cells #[.string s, .int .i64 i4, .bool b4] 177) = w9 at KB1 KB2 KB3 KB5 KB12 HB ⊢
       generalize w8.heap.size = g12 at KB12 HL12 ⊢
       obtain ⟨c0, c1, c2, f0, f1, f2⟩ := spot_cells KB1.out
       obtain ⟨d0, d1, d2, g0, g1, g2⟩ := spot_cells KB2.out
       obtain ⟨p0, p1, p2, p3, p4, r0, r1, r2, r3, r4⟩ := prc_cells KB3.out
       obtain ⟨x0, x1, x2, x3, x4, y0, y1, y2, y3, y4⟩ := prc_cells KB5.out
       obtain ⟨z0, z1, z2, z3, z4, z5⟩ := spot_cells KB12.out
       go_wp2_with fail
       refine (HM.out _).mono ?_
       rintro e w10 ⟨rfl, hb⟩
       clear z0 z1 z2 z3 z4 z5 KB12
       clear c0 c1 c2 f0 f1 f2 d0 d1 d2 g0 g1 g2
       clear p0 p1 p2 p3 p4 r0 r1 r2 r3 r4 x0 x1 x2 x3 x4 y0 y1 y2 y3 y4
       have k1_ := mk0 ((hb.block _ (blk_lt KB1.out)).trans KB1.out)
       have k2_ := mk0 ((hb.block _ (blk_lt KB2.out)).trans KB2.out)
       have k3_ := mk0 ((hb.block _ (blk_lt KB3.out)).trans KB3.out)
       have k5_ := mk0 ((hb.block _ (blk_lt KB5.out)).trans KB5.out)
       have n_ := mk0 (below_then HB.out HB.out.size hb)
       clear KB1 KB2 KB3 KB5 HB hb
       have KB1 := k1_
       have KB2 := k2_
       have KB3 := k3_
       have KB5 := k5_
       have HB := n_
       clear k1_ k2_ k3_ k5_ n_
       obtain ⟨c0, c1, c2, f0, f1, f2⟩ := spot_cells KB1.out
       obtain ⟨d0, d1, d2, g0, g1, g2⟩ := spot_cells KB2.out
       obtain ⟨p0, p1, p2, p3, p4, r0, r1, r2, r3, r4⟩ := prc_cells KB3.out
       obtain ⟨x0, x1, x2, x3, x4, y0, y1, y2, y3, y4⟩ := prc_cells KB5.out
       go_wp2_with fail
       refine (HN2.out _).mono ?_
       rintro e w11 ⟨rfl, hb⟩
       clear c0 c1 c2 f0 f1 f2 d0 d1 d2 g0 g1 g2
       clear p0 p1 p2 p3 p4 r0 r1 r2 r3 r4 x0 x1 x2 x3 x4 y0 y1 y2 y3 y4
       have k1_ := mk0 ((hb.block _ (blk_lt KB1.out)).trans KB1.out)
       have k2_ := mk0 ((hb.block _ (blk_lt KB2.out)).trans KB2.out)
       have k3_ := mk0 ((hb.block _ (blk_lt KB3.out)).trans KB3.out)
       have k5_ := mk0 ((hb.block _ (blk_lt KB5.out)).trans KB5.out)
       have n_ := mk0 (below_then HB.out HB.out.size hb)
       clear KB1 KB2 KB3 KB5 HB hb
       have KB1 := k1_
       have KB2 := k2_
       have KB3 := k3_
       have KB5 := k5_
       have HB := n_
       clear k1_ k2_ k3_ k5_ n_
       obtain ⟨c0, c1, c2, f0, f1, f2⟩ := spot_cells KB1.out
       obtain ⟨d0, d1, d2, g0, g1, g2⟩ := spot_cells KB2.out
       obtain ⟨p0, p1, p2, p3, p4, r0, r1, r2, r3, r4⟩ := prc_cells KB3.out
       obtain ⟨x0, x1, x2, x3, x4, y0, y1, y2, y3, y4⟩ := prc_cells KB5.out
       go_upto_region 21 with (fail)
       clear c0 c1 c2 f0 f1 f2 d0 d1 d2 g0 g1 g2
       clear p0 p1 p2 p3 p4 r0 r1 r2 r3 r4 x0 x1 x2 x3 x4 y0 y1 y2 y3 y4
       have k1_ := mk0 ((Below.heap_alloc w11 (.cells #[.string s, .int .i64 i5, .bool b5] 177) _ (blk_lt KB1.out)).trans KB1.out)
       have k2_ := mk0 ((Below.heap_alloc w11 (.cells #[.string s, .int .i64 i5, .bool b5] 177) _ (blk_lt KB2.out)).trans KB2.out)
       have k3_ := mk0 ((Below.heap_alloc w11 (.cells #[.string s, .int .i64 i5, .bool b5] 177) _ (blk_lt KB3.out)).trans KB3.out)
       have k5_ := mk0 ((Below.heap_alloc w11 (.cells #[.string s, .int .i64 i5, .bool b5] 177) _ (blk_lt KB5.out)).trans KB5.out)
       have k6_ : Aside0 ((w11.alloc (.cells #[.string s, .int .i64 i5, .bool b5] 177)).heap[w11.heap.size]? = some (spotC s i5 b5)) := ⟨heap_alloc_new w11 _⟩
       have n_ := mk0 (below_alloc HB.out (.cells #[.string s, .int .i64 i5, .bool b5] 177))
       have l_ := mk0 (blk_lt KB5.out)
       clear KB1 KB2 KB3 KB5 HB
       have KB1 := k1_
       have KB2 := k2_
       have KB3 := k3_
       have KB5 := k5_
       have KB6 := k6_
       have HB := n_
       have HL6 := l_
       clear k1_ k2_ k3_ k5_ k6_ n_ l_
       generalize w11.alloc (.cells #[.string s, .int .i64 i5, .bool b5] 177) = w12 at KB1 KB2 KB3 KB5 KB6 HB ⊢
       generalize w11.heap.size = g6 at KB6 HL6 ⊢
       obtain ⟨c0, c1, c2, f0, f1, f2⟩ := spot_cells KB1.out
       obtain ⟨d0, d1, d2, g0, g1, g2⟩ := spot_cells KB2.out
       obtain ⟨p0, p1, p2, p3, p4, r0, r1, r2, r3, r4⟩ := prc_cells KB3.out
       obtain ⟨x0, x1, x2, x3, x4, y0, y1, y2, y3, y4⟩ := prc_cells KB5.out
       obtain ⟨z0, z1, z2, z3, z4, z5⟩ := spot_cells KB6.out
       go_upto_region 22 with (fail)
       clear c0 c1 c2 f0 f1 f2 d0 d1 d2 g0 g1 g2
       clear p0 p1 p2 p3 p4 r0 r1 r2 r3 r4 x0 x1 x2 x3 x4 y0 y1 y2 y3 y4
       clear z0 z1 z2 z3 z4 z5
       have k1_ := mk0 ((Below.heap_setCell w12 ⟨g5, 1, none⟩ (.int .i64 1) _ (show w.heap.size ≠ g5 by have := HL5.out; omega)).trans KB1.out)
       have k2_ := mk0 ((Below.heap_setCell w12 ⟨g5, 1, none⟩ (.int .i64 1) _ (show w.heap.size + 1 ≠ g5 by have := HL5.out; omega)).trans KB2.out)
       have k3_ := mk0 ((Below.heap_setCell w12 ⟨g5, 1, none⟩ (.int .i64 1) _ (show w.heap.size + 1 + 1 ≠ g5 by have := HL5.out; omega)).trans KB3.out)
       have k6_ := mk0 ((Below.heap_setCell w12 ⟨g5, 1, none⟩ (.int .i64 1) _ (show g6 ≠ g5 by have := HL6.out; omega)).trans KB6.out)
       have k5_ : Aside0 ((w12.setCell ⟨g5, 1, none⟩ (.int .i64 1)).heap[g5]? = some (prC nm 1 0 0 ⟨#[]⟩)) := ⟨by have := blk_set KB5.out 1 (.int .i64 1); simpa [prC] using this⟩
       have n_ := mk0 (HB.out.setCell (p := ⟨g5, 1, none⟩) (show w.heap.size ≤ g5 by have := HL5.out; omega) (.int .i64 1))
       clear KB1 KB2 KB3 KB5 KB6 HB
       have KB1 := k1_
       have KB2 := k2_
       have KB3 := k3_
       have KB5 := k5_
       have KB6 := k6_
       have HB := n_
       clear k1_ k2_ k3_ k5_ k6_ n_
       generalize w12.setCell ⟨g5, 1, none⟩ (.int .i64 1) = w13 at KB1 KB2 KB3 KB5 KB6 HB ⊢
       obtain ⟨c0, c1, c2, f0, f1, f2⟩ := spot_cells KB1.out
       obtain ⟨d0, d1, d2, g0, g1, g2⟩ := spot_cells KB2.out
       obtain ⟨p0, p1, p2, p3, p4, r0, r1, r2, r3, r4⟩ := prc_cells KB3.out
       obtain ⟨x0, x1, x2, x3, x4, y0, y1, y2, y3, y4⟩ := prc_cells KB5.out
       obtain ⟨z0, z1, z2, z3, z4, z5⟩ := spot_cells KB6.out
       go_upto_region 23 with (fail)
       clear c0 c1 c2 f0 f1 f2 d0 d1 d2 g0 g1 g2
       clear p0 p1 p2 p3 p4 r0 r1 r2 r3 r4 x0 x1 x2 x3 x4 y0 y1 y2 y3 y4
       clear z0 z1 z2 z3 z4 z5
       have k1_ := mk0 ((Below.heap_setCell w13 ⟨g5, 2, none⟩ (.int .i64 v1) _ (show w.heap.size ≠ g5 by have := HL5.out; omega)).trans KB1.out)
       have k2_ := mk0 ((Below.heap_setCell w13 ⟨g5, 2, none⟩ (.int .i64 v1) _ (show w.heap.size + 1 ≠ g5 by have := HL5.out; omega)).trans KB2.out)
       have k3_ := mk0 ((Below.heap_setCell w13 ⟨g5, 2, none⟩ (.int .i64 v1) _ (show w.heap.size + 1 + 1 ≠ g5 by have := HL5.out; omega)).trans KB3.out)
       have k6_ := mk0 ((Below.heap_setCell w13 ⟨g5, 2, none⟩ (.int .i64 v1) _ (show g6 ≠ g5 by have := HL6.out; omega)).trans KB6.out)
       have k5_ : Aside0 ((w13.setCell ⟨g5, 2, none⟩ (.int .i64 v1)).heap[g5]? = some (prC nm 1 v1 0 ⟨#[]⟩)) := ⟨by have := blk_set KB5.out 2 (.int .i64 v1); simpa [prC] using this⟩
       have n_ := mk0 (HB.out.setCell (p := ⟨g5, 2, none⟩) (show w.heap.size ≤ g5 by have := HL5.out; omega) (.int .i64 v1))
       clear KB1 KB2 KB3 KB5 KB6 HB
       have KB1 := k1_
       have KB2 := k2_
       have KB3 := k3_
       have KB5 := k5_
       have KB6 := k6_
       have HB := n_
       clear k1_ k2_ k3_ k5_ k6_ n_
       generalize w13.setCell ⟨g5, 2, none⟩ (.int .i64 v1) = w14 at KB1 KB2 KB3 KB5 KB6 HB ⊢
       obtain ⟨c0, c1, c2, f0, f1, f2⟩ := spot_cells KB1.out
       obtain ⟨d0, d1, d2, g0, g1, g2⟩ := spot_cells KB2.out
       obtain ⟨p0, p1, p2, p3, p4, r0, r1, r2, r3, r4⟩ := prc_cells KB3.out
       obtain ⟨x0, x1, x2, x3, x4, y0, y1, y2, y3, y4⟩ := prc_cells KB5.out
       obtain ⟨z0, z1, z2, z3, z4, z5⟩ := spot_cells KB6.out
       go_upto_region 24 with (fail)
       clear c0 c1 c2 f0 f1 f2 d0 d1 d2 g0 g1 g2
       clear p0 p1 p2 p3 p4 r0 r1 r2 r3 r4 x0 x1 x2 x3 x4 y0 y1 y2 y3 y4
       clear z0 z1 z2 z3 z4 z5
       have k1_ := mk0 ((Below.heap_setCell w14 ⟨g5, 3, none⟩ (.int .i64 v2) _ (show w.heap.size ≠ g5 by have := HL5.out; omega)).trans KB1.out)
       have k2_ := mk0 ((Below.heap_setCell w14 ⟨g5, 3, none⟩ (.int .i64 v2) _ (show w.heap.size + 1 ≠ g5 by have := HL5.out; omega)).trans KB2.out)
       have k3_ := mk0 ((Below.heap_setCell w14 ⟨g5, 3, none⟩ (.int .i64 v2) _ (show w.heap.size + 1 + 1 ≠ g5 by have := HL5.out; omega)).trans KB3.out)
       have k6_ := mk0 ((Below.heap_setCell w14 ⟨g5, 3, none⟩ (.int .i64 v2) _ (show g6 ≠ g5 by have := HL6.out; omega)).trans KB6.out)
       have k5_ : Aside0 ((w14.setCell ⟨g5, 3, none⟩ (.int .i64 v2)).heap[g5]? = some (prC nm 1 v1 v2 ⟨#[]⟩)) := ⟨by have := blk_set KB5.out 3 (.int .i64 v2); simpa [prC] using this⟩
       have n_ := mk0 (HB.out.setCell (p := ⟨g5, 3, none⟩) (show w.heap.size ≤ g5 by have := HL5.out; omega) (.int .i64 v2))
       clear KB1 KB2 KB3 KB5 KB6 HB
       have KB1 := k1_
       have KB2 := k2_
       have KB3 := k3_
       have KB5 := k5_
       have KB6 := k6_
       have HB := n_
       clear k1_ k2_ k3_ k5_ k6_ n_
       generalize w14.setCell ⟨g5, 3, none⟩ (.int .i64 v2) = w15 at KB1 KB2 KB3 KB5 KB6 HB ⊢
       have ne4 : ¬ (w.heap.size + 1 + 1 = g6) := by have := HL5.out; have := HL6.out; omega
       have ne5 : ¬ (w.heap.size + 1 = g6) := by have := HL5.out; have := HL6.out; omega
       obtain ⟨c0, c1, c2, f0, f1, f2⟩ := spot_cells KB1.out
       obtain ⟨d0, d1, d2, g0, g1, g2⟩ := spot_cells KB2.out
       obtain ⟨p0, p1, p2, p3, p4, r0, r1, r2, r3, r4⟩ := prc_cells KB3.out
       obtain ⟨x0, x1, x2, x3, x4, y0, y1, y2, y3, y4⟩ := prc_cells KB5.out
       obtain ⟨z0, z1, z2, z3, z4, z5⟩ := spot_cells KB6.out
       go_region
       go_wp2_with fail
       refine bodyPost_ret (v := .tuple #[.agg #[.string s, .int .i64 i5, .bool b5], .agg #[.string nm, .int .i64 1, .int .i64 v1, .int .i64 v2, .string ⟨#[]⟩]]) (by simp [results, Tryz.results73, go_sem, d0, d1, d2, p0, p1, p2, p3, p4]) rfl ⟨_, rfl, ?_, ?_⟩
       ·
        rw [HPOST.out]
        exact in_post HP.out HA.out HBE.out HQ1.out HSM.out HQ2.out HST5.out HV1.out HV2.out HNM.out
       ·
        exact below_drew1 (pr_below (g := w.heap.size + 1) (g2 := w.heap.size + 1 + 1) HB.out (by omega) (by omega) _ _ _ _ _ _ _ _)
      ·
       have q9 : (a.1 == [105, 110]) = false := by simpa using hin
       have HBE := mk0 (show inS (wordS st).1 ⟨L0, none⟩ = (_, _) from rfl)
       have hbs : (predS st).2.bad = some L0.length := by
        rw [HP.out]
        unfold inS
        simp only [HA.out]
        rw [if_neg hin]
        have h1 : stopS a.2 L0.length = ⟨a.2.l, some L0.length⟩ := by unfold stopS; rw [ha]
        rw [h1, numberS_bad rfl, markS_bad rfl, numberS_bad rfl]
       have HBS := mk0 hbs
       clear ha hin hbs HBE
       obtain ⟨c0, c1, c2, f0, f1, f2⟩ := spot_cells KB1.out
       obtain ⟨d0, d1, d2, g0, g1, g2⟩ := spot_cells KB2.out
       obtain ⟨p0, p1, p2, p3, p4, r0, r1, r2, r3, r4⟩ := prc_cells KB3.out
       obtain ⟨x0, x1, x2, x3, x4, y0, y1, y2, y3, y4⟩ := prc_cells KB5.out
       go_wp2_with fail
       refine (HW2.out _).mono ?_
       rintro e w6 ⟨rfl, hb⟩
       clear c0 c1 c2 f0 f1 f2 d0 d1 d2 g0 g1 g2
       clear p0 p1 p2 p3 p4 r0 r1 r2 r3 r4 x0 x1 x2 x3 x4 y0 y1 y2 y3 y4
       have k1_ := mk0 ((hb.block _ (blk_lt KB1.out)).trans KB1.out)
       have k2_ := mk0 ((hb.block _ (blk_lt KB2.out)).trans KB2.out)
       have k3_ := mk0 ((hb.block _ (blk_lt KB3.out)).trans KB3.out)
       have k5_ := mk0 ((hb.block _ (blk_lt KB5.out)).trans KB5.out)
       have n_ := mk0 (below_then HB.out HB.out.size hb)
       clear KB1 KB2 KB3 KB5 HB hb
       have KB1 := k1_
       have KB2 := k2_
       have KB3 := k3_
       have KB5 := k5_
       have HB := n_
       clear k1_ k2_ k3_ k5_ n_
       obtain ⟨c0, c1, c2, f0, f1, f2⟩ := spot_cells KB1.out
       obtain ⟨d0, d1, d2, g0, g1, g2⟩ := spot_cells KB2.out
       obtain ⟨p0, p1, p2, p3, p4, r0, r1, r2, r3, r4⟩ := prc_cells KB3.out
       obtain ⟨x0, x1, x2, x3, x4, y0, y1, y2, y3, y4⟩ := prc_cells KB5.out
       go_upto_region 17 with (fail)
       clear c0 c1 c2 f0 f1 f2 d0 d1 d2 g0 g1 g2
       clear p0 p1 p2 p3 p4 r0 r1 r2 r3 r4 x0 x1 x2 x3 x4 y0 y1 y2 y3 y4
       have k1_ := mk0 ((Below.heap_alloc w6 (.cells #[.string s, .int .i64 i3, .bool false] 177) _ (blk_lt KB1.out)).trans KB1.out)
       have k2_ := mk0 ((Below.heap_alloc w6 (.cells #[.string s, .int .i64 i3, .bool false] 177) _ (blk_lt KB2.out)).trans KB2.out)
       have k3_ := mk0 ((Below.heap_alloc w6 (.cells #[.string s, .int .i64 i3, .bool false] 177) _ (blk_lt KB3.out)).trans KB3.out)
       have k5_ := mk0 ((Below.heap_alloc w6 (.cells #[.string s, .int .i64 i3, .bool false] 177) _ (blk_lt KB5.out)).trans KB5.out)
       have k6_ : Aside0 ((w6.alloc (.cells #[.string s, .int .i64 i3, .bool false] 177)).heap[w6.heap.size]? = some (spotC s i3 false)) := ⟨heap_alloc_new w6 _⟩
       have n_ := mk0 (below_alloc HB.out (.cells #[.string s, .int .i64 i3, .bool false] 177))
       have l_ := mk0 (blk_lt KB5.out)
       clear KB1 KB2 KB3 KB5 HB
       have KB1 := k1_
       have KB2 := k2_
       have KB3 := k3_
       have KB5 := k5_
       have KB10 := k6_
       have HB := n_
       have HL10 := l_
       clear k1_ k2_ k3_ k5_ k6_ n_ l_
       generalize w6.alloc (.cells #[.string s, .int .i64 i3, .bool false] 177) = w7 at KB1 KB2 KB3 KB5 KB10 HB ⊢
       generalize w6.heap.size = g10 at KB10 HL10 ⊢
       obtain ⟨c0, c1, c2, f0, f1, f2⟩ := spot_cells KB1.out
       obtain ⟨d0, d1, d2, g0, g1, g2⟩ := spot_cells KB2.out
       obtain ⟨p0, p1, p2, p3, p4, r0, r1, r2, r3, r4⟩ := prc_cells KB3.out
       obtain ⟨x0, x1, x2, x3, x4, y0, y1, y2, y3, y4⟩ := prc_cells KB5.out
       obtain ⟨z0, z1, z2, z3, z4, z5⟩ := spot_cells KB10.out
       go_wp2_with fail
       have l1 := blk_lt KB1.out
       have l2 := blk_lt KB2.out
       have l3 := blk_lt KB3.out
       have l5 := blk_lt KB5.out
       have kk2 := pr_far KB2.out (show w.heap.size + 1 ≠ w.heap.size + 1 + 1 by omega) (.string nm) (.int .i64 0) (.int .i64 0) (.int .i64 0) (.string ⟨#[]⟩)
       have kk3 := pr_set KB3.out nm ⟨#[]⟩ 0 0 0
       have ll2 := blk_lt kk2
       have ll3 := blk_lt kk3
       have bb := prv_below (g2 := w.heap.size + 1 + 1) HB.out (by omega) (.string nm) (.int .i64 0) (.int .i64 0) (.int .i64 0) (.string ⟨#[]⟩)
       have LL := mk0 (And.intro l1 (And.intro l2 (And.intro l3 l5)))
       have KK2 := mk0 kk2
       have KK3 := mk0 kk3
       have LL2 := mk0 ll2
       have LL3 := mk0 ll3
       have BB := mk0 bb
       clear l1 l2 l3 l5 kk2 kk3 ll2 ll3 bb
       go_region_with (go_at_call 101; (with_reducible refine (rbad_agg s _ _ _).mono ?_); rintro e w8 ⟨rfl, hb⟩; first
        | (have n_ := mk0 (below_then (below_drew1 HB.out) (below_drew1 HB.out).size hb); obtain ⟨d0', d1', d2', g0', g1', g2'⟩ := spot_cells ((hb.block _ LL.out.2.1).trans KB2.out); obtain ⟨p0', p1', p2', p3', p4', r0', r1', r2', r3', r4'⟩ := prc_cells ((hb.block _ LL.out.2.2.1).trans KB3.out); obtain ⟨x0', x1', x2', x3', x4', _⟩ := prc_cells ((hb.block _ LL.out.2.2.2).trans KB5.out); clear hb)
        | (have n_ := mk0 (below_then (below_drew1 BB.out) (below_drew1 BB.out).size hb); obtain ⟨d0', d1', d2', g0', g1', g2'⟩ := spot_cells ((hb.block _ LL2.out).trans KK2.out); obtain ⟨p0', p1', p2', p3', p4', r0', r1', r2', r3', r4'⟩ := prc_cells ((hb.block _ LL3.out).trans KK3.out); clear hb))
       all_goals
        go_wp2_with fail
        refine bodyPost_ret (v := .tuple #[.agg #[.string s, .int .i64 (i : Int), .bool true], .agg #[.string nm, .int .i64 0, .int .i64 0, .int .i64 0, .string ⟨#[]⟩]]) (by simp [results, Tryz.results73, go_sem, d0', d1', d2', p0', p1', p2', p3', p4']) rfl ⟨_, rfl, ?_, ?_⟩
        ·
         rw [HPOST.out]
         refine ⟨⟨(wordS st).1, 0, 0, 0, []⟩, ?_, fun h => by rw [HBS.out] at h; cases h⟩
         rw [stV_of_bad HBS.out, show s.size - L0.length = i by have := HLI.out; omega, ← HNM.out]
         rfl
        ·
         have b1 := spot_below (g := w.heap.size + 1) n_.out (by omega) s (i : Int) true
         have b2 := pr_below (g := w.heap.size + 1) (g2 := w.heap.size + 1 + 1) n_.out (by omega) (by omega) s (i : Int) true (.string nm) (.int .i64 0) (.int .i64 0) (.int .i64 0) (.string ⟨#[]⟩)
         have b3 := spot_below (g := w.heap.size + 1) (prv_below (g2 := w.heap.size + 1 + 1) n_.out (by omega) (.string nm) (.int .i64 0) (.int .i64 0) (.int .i64 0) (.string ⟨#[]⟩)) (by omega) s (i : Int) true
         first | (with_reducible exact b1) | (with_reducible exact b2) | (with_reducible exact b3)
end Go.Proofs.YtlokmijoaocofaaGreatDoor.Mine
end
