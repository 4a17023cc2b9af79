/- Texts of one claim, one behind the other, made short by a program. -/
import Derived.Test.YtnmpijbcajclgaaGreatDoorMN6
set_option linter.unusedSimpArgs false
set_option linter.unusedVariables false
section
namespace Go.Proofs.YtnmpijbcajclgaaGreatDoor.Mine
open Go.RowKit YtnmpijbcajclgaaGreatDoorW.PrintWords YtnmpijbcajclgaaGreatDoorW.PrintLast YtnmpijbcajclgaaGreatDoorW.PrintMore
open PNodeAlone
section
variable {g : Nat} {s : ByteArray} {w0 w : World} {st : St}
theorem IsP.alloc (h : IsP w0 w g s st) (o : Obj) : IsP w0 (w.alloc o) g s st := ⟨h.1, h.2.alloc o⟩
theorem IsP.drewN (h : IsP w0 w g s st) (n : Nat) : IsP w0 (w.drewN n) g s st := h
theorem IsP.drew (h : IsP w0 w g s st) : IsP w0 w.drew g s st := h
theorem IsP.far {b j : Nat} {v : Value} (h : IsP w0 w g s st) (hn : g ≠ b) : IsP w0 (w.setCell ⟨b, j, none⟩ v) g s st := ⟨h.1, h.2.far (p := ⟨b, j, none⟩) hn v⟩
theorem blk_keep {w1 : World} {b : Nat} {o : Obj} (h : w.heap[b]? = some o) (hk : KeepBut w w1 g none) (hn : b ≠ g) : w1.heap[b]? = some o := (hk.2 b (blk_lt h) hn (by simp)).trans h
def prV (x : Pr) : Value := .agg #[.string ⟨x.name.toArray⟩, .int .i64 x.op, .int .i64 x.lo, .int .i64 x.hi, .string ⟨x.str.toArray⟩]
def zPr : Array Value := #[.string ⟨#[]⟩, .int .i64 0, .int .i64 0, .int .i64 0, .string ⟨#[]⟩]
set_option maxHeartbeats 4000000 in
set_option maxRecDepth 100000 in
theorem pred_P (hs : s.size ≤ 1000) (hI : IsP w0 w g s st) (hB : Below w0.heap.size w0 w) :
 Calls Tryz.prog 143 #[.pointer (some ⟨g, 0, none⟩)] w (PostP w0 w g s (prV (predS st).1) (predS st).2) := by
 have HI := mk0 hI
 have HB := mk0 hB
 have HK := mk0 (KeepBut.refl w g none)
 have HL := mk0 hB.size
 have HG := mk0 (show g < w.heap.size from hI.2.lt)
 clear hI hB
 go_enter Tryz.func143, Tryz.ntmps143
 go_wp2_with fail
 (with_reducible refine (word_P (w0 := w0) (st := st) hs ?side1 ?side2).mono ?_)
 case side1 => (repeat (first | (with_reducible first | exact HI.out | apply IsP.alloc | apply IsP.drewN | apply IsP.drew | refine IsP.far ?_ NG1.out | refine IsP.far ?_ NG2.out) | exact HI.out))
 case side2 => (repeat (first | (with_reducible first | exact HB.out | apply below_alloc | apply pw_below_drewN | apply below_drew1 | refine below_set ?_ LB1.out | refine below_set ?_ LB2.out) | exact HB.out))
 rintro e w1 ⟨rfl, hi, hb, hk⟩
 generalize hE : wordS st = r1 at hi ⊢
 have Er1 := mk0 hE
 clear hE
 have n0_ := mk0 hi
 have n1_ := mk0 hb
 have n2_ := mk0 (KeepBut.trans (by (repeat (first | (with_reducible first | exact HK.out | apply keep_drewN | apply keep_drew | apply keep_alloc | refine keep_far ?_ LW1.out _ | refine keep_far ?_ LW2.out _) | exact HK.out))) hk (Or.inl rfl))
 clear HI HB HK
 have HI := n0_
 have HB := n1_
 have HK := n2_
 clear n0_ n1_ n2_ hi hb
 have hb1 : w1.heap[w.heap.size]? = some (.cells zPr 168 (0, 0)) := blk_keep (by exact heap_alloc_new w _) hk (by have := HG.out; omega)
 have BX1 := mk0 hb1
 have NG1 := mk0 (show g ≠ w.heap.size by have := HG.out; omega)
 have LW1 := mk0 (Nat.le_refl w.heap.size)
 have LB1 := mk0 (show w0.heap.size ≤ w.heap.size from HL.out)
 have HS1 := mk0 (blk_lt hb1)
 clear hk hb1
 have HG1 := mk0 (show g < w1.heap.size by have := HS1.out; have := HG.out; omega)
 have NG2 := mk0 (show g ≠ w1.heap.size by have := HG1.out; omega)
 have LW2 := mk0 (show w.heap.size ≤ w1.heap.size by have := HS1.out; omega)
 have LB2 := mk0 (show w0.heap.size ≤ w1.heap.size by have := HS1.out; have := LB1.out; omega)
 go_wp2_with fail
 (with_reducible refine (blanks_P (w0 := w0) (st := r1.2) hs ?side1 ?side2).mono ?_)
 case side1 => (repeat (first | (with_reducible first | exact HI.out | apply IsP.alloc | apply IsP.drewN | apply IsP.drew | refine IsP.far ?_ NG1.out | refine IsP.far ?_ NG2.out) | exact HI.out))
 case side2 => (repeat (first | (with_reducible first | exact HB.out | apply below_alloc | apply pw_below_drewN | apply below_drew1 | refine below_set ?_ LB1.out | refine below_set ?_ LB2.out) | exact HB.out))
 rintro e w2 ⟨rfl, hi, hb, hk⟩
 generalize hE : blanksS r1.2 = s2 at hi ⊢
 have Es2 := mk0 hE
 clear hE
 have n0_ := mk0 hi
 have n1_ := mk0 hb
 have n2_ := mk0 (KeepBut.trans (by (repeat (first | (with_reducible first | exact HK.out | apply keep_drewN | apply keep_drew | apply keep_alloc | refine keep_far ?_ LW1.out _ | refine keep_far ?_ LW2.out _) | exact HK.out))) hk (Or.inl rfl))
 clear HI HB HK
 have HI := n0_
 have HB := n1_
 have HK := n2_
 clear n0_ n1_ n2_ hi hb
 have hb2 : w2.heap[w1.heap.size]? = some (.cells #[.string ⟨r1.1.toArray⟩, .int .i64 0, .int .i64 0, .int .i64 0, .string ⟨#[]⟩] 168 (0, 0)) := blk_keep (by exact heap_alloc_new w1 _) hk (by have := HG1.out; omega)
 have hb1 : w2.heap[w.heap.size]? = some (.cells zPr 168 (0, 0)) := blk_keep (by rw [Below.heap_alloc _ _ _ HS1.out]; exact BX1.out) hk (by have := HG.out; omega)
 have BX2 := mk0 hb2
 clear BX1 hk
 have BX1 := mk0 hb1
 clear hb1 hb2
 obtain ⟨hok, HG, hg⟩ := HI.out
 have HOK := mk0 hok
 have hc0 := cellS254_0 HG
 have hc1 := cellS254_1 HG
 have hc2 := cellS254_2 HG
 have hf0 := blk_frozen HG 0
 have hf1 := blk_frozen HG 1
 have hf2 := blk_frozen HG 2
 clear HG hg hok
 generalize hq : s.size - s2.l.length = q at hc1
 have EQ := mk0 hq
 have hqd := P_drop HOK.out
 have hql := P_le HOK.out
 rw [hq] at hqd
 clear hq
 cases hl : s2.l with
 | nil =>
  have q1 := decide_eq_false (show ¬ ((q : Int) < (s.size : Int)) by rw [hl] at hqd; have h5 := dropB_len s q; rw [hqd] at h5; simp at h5; omega)
  have q2 := decide_eq_false (show ¬ q < s.size by have := of_decide_eq_false q1; omega)
  have HL2 := mk0 hl
  clear hl hqd
  go_wp2_with fail
  repeat (go_quiet (fail); try go_wp2_with fail)
  go_wp2_with fail
  (with_reducible refine (word_P (w0 := w0) (st := s2) hs ?side1 ?side2).mono ?_)
  case side1 => (repeat (first | (with_reducible first | exact HI.out | apply IsP.alloc | apply IsP.drewN | apply IsP.drew | refine IsP.far ?_ NG1.out | refine IsP.far ?_ NG2.out) | exact HI.out))
  case side2 => (repeat (first | (with_reducible first | exact HB.out | apply below_alloc | apply pw_below_drewN | apply below_drew1 | refine below_set ?_ LB1.out | refine below_set ?_ LB2.out) | exact HB.out))
  rintro e w3 ⟨rfl, hi, hb, hk⟩
  generalize hE : wordS s2 = r3 at hi ⊢
  have Er3 := mk0 hE
  clear hE
  have n0_ := mk0 hi
  have n1_ := mk0 hb
  have n2_ := mk0 (KeepBut.trans (by (repeat (first | (with_reducible first | exact HK.out | apply keep_drewN | apply keep_drew | apply keep_alloc | refine keep_far ?_ LW1.out _ | refine keep_far ?_ LW2.out _) | exact HK.out))) hk (Or.inl rfl))
  clear HI HB HK
  have HI := n0_
  have HB := n1_
  have HK := n2_
  clear n0_ n1_ n2_ hi hb
  have u1_ := mk0 (show w3.heap[w.heap.size]? = some (.cells zPr 168 (0, 0)) from (hk.2 _ (by have := blk_lt BX1.out; exact this) (by have := NG1.out; omega) (by simp)).trans BX1.out)
  have u2_ := mk0 (show w3.heap[w1.heap.size]? = some (.cells #[.string ⟨r1.1.toArray⟩, .int .i64 0, .int .i64 0, .int .i64 0, .string ⟨#[]⟩] 168 (0, 0)) from (hk.2 _ (by have := blk_lt BX2.out; exact this) (by have := NG2.out; omega) (by simp)).trans BX2.out)
  clear BX1 BX2 hk
  have BX1 := u1_
  have BX2 := u2_
  clear u1_ u2_
  by_cases hin : r3.1 = [105, 110]
  ·
   have t1 : (r3.1 == ([105, 110] : List UInt8)) = true := by simpa using hin
   have HIN := mk0 (show r3.1 = [105, 110] from hin)
   clear hin
   obtain ⟨s4, hs4⟩ : ∃ s4, r3.2 = s4 := ⟨_, rfl⟩
   have ES4 := mk0 (show (if r3.1 = [105, 110] then r3.2 else stopS r3.2 s2.l.length) = s4 by rw [if_pos HIN.out]; exact hs4)
   rw [hs4] at HI
   clear hs4
   go_wp2_with fail
   go_wp2_with fail
   (with_reducible refine (number_P (w0 := w0) (st := s4) hs ?side1 ?side2).mono ?_)
   case side1 => (repeat (first | (with_reducible first | exact HI.out | apply IsP.alloc | apply IsP.drewN | apply IsP.drew | refine IsP.far ?_ NG1.out | refine IsP.far ?_ NG2.out) | exact HI.out))
   case side2 => (repeat (first | (with_reducible first | exact HB.out | apply below_alloc | apply pw_below_drewN | apply below_drew1 | refine below_set ?_ LB1.out | refine below_set ?_ LB2.out) | exact HB.out))
   rintro e w5 ⟨rfl, hi, hb, hk⟩
   generalize hE : numberS s4 = r5 at hi ⊢
   have Er5 := mk0 hE
   clear hE
   have n0_ := mk0 hi
   have n1_ := mk0 hb
   have n2_ := mk0 (KeepBut.trans (by (repeat (first | (with_reducible first | exact HK.out | apply keep_drewN | apply keep_drew | apply keep_alloc | refine keep_far ?_ LW1.out _ | refine keep_far ?_ LW2.out _) | exact HK.out))) hk (Or.inl rfl))
   clear HI HB HK
   have HI := n0_
   have HB := n1_
   have HK := n2_
   clear n0_ n1_ n2_ hi hb
   have u1_ := mk0 (show w5.heap[w.heap.size]? = some (.cells zPr 168 (0, 0)) from (hk.2 _ (by have := blk_lt BX1.out; exact this) (by have := NG1.out; omega) (by simp)).trans BX1.out)
   have u2_ := mk0 (show w5.heap[w1.heap.size]? = some (.cells #[.string ⟨r1.1.toArray⟩, .int .i64 0, .int .i64 0, .int .i64 0, .string ⟨#[]⟩] 168 (0, 0)) from (hk.2 _ (by have := blk_lt BX2.out; exact this) (by have := NG2.out; omega) (by simp)).trans BX2.out)
   clear BX1 BX2 hk
   have BX1 := u1_
   have BX2 := u2_
   clear u1_ u2_
   have hx20 := blk_cell BX2.out 0
   have hx21 := blk_cell BX2.out 1
   have hx22 := blk_cell BX2.out 2
   have hx23 := blk_cell BX2.out 3
   have hx24 := blk_cell BX2.out 4
   have hy20 := blk_frozen BX2.out 0
   have hy21 := blk_frozen BX2.out 1
   have hy22 := blk_frozen BX2.out 2
   have hy23 := blk_frozen BX2.out 3
   have hy24 := blk_frozen BX2.out 4
   go_wp2_with fail
   clear hx20 hx21 hx22 hx23 hx24 hy20 hy21 hy22 hy23 hy24
   have u2_ := mk0 (show ((w5.setCell ⟨w1.heap.size, 1, none⟩ (.int .i64 1)).setCell ⟨w1.heap.size, 2, none⟩ (.int .i64 r5.1)).heap[w1.heap.size]? = some (.cells #[.string ⟨r1.1.toArray⟩, .int .i64 1, .int .i64 r5.1, .int .i64 0, .string ⟨#[]⟩] 168 (0, 0)) by simpa using blk_set (blk_set BX2.out 1 (.int .i64 1)) 2 (.int .i64 r5.1))
   have u1_ := mk0 (show ((w5.setCell ⟨w1.heap.size, 1, none⟩ (.int .i64 1)).setCell ⟨w1.heap.size, 2, none⟩ (.int .i64 r5.1)).heap[w.heap.size]? = some (.cells zPr 168 (0, 0)) from blk_far (blk_far BX1.out (p := ⟨w1.heap.size, 1, none⟩) (by have := HS1.out; show w.heap.size ≠ w1.heap.size; omega) _) (p := ⟨w1.heap.size, 2, none⟩) (by have := HS1.out; show w.heap.size ≠ w1.heap.size; omega) _)
   clear BX1 BX2
   have BX1 := u1_
   have BX2 := u2_
   clear u1_ u2_
   go_wp2_with fail
   (with_reducible refine (mark_P (w0 := w0) (st := r5.2) ⟨#[46, 46]⟩ (by decide) hs ?side1 ?side2).mono ?_)
   case side1 => (repeat (first | (with_reducible first | exact HI.out | apply IsP.alloc | apply IsP.drewN | apply IsP.drew | refine IsP.far ?_ NG1.out | refine IsP.far ?_ NG2.out) | exact HI.out))
   case side2 => (repeat (first | (with_reducible first | exact HB.out | apply below_alloc | apply pw_below_drewN | apply below_drew1 | refine below_set ?_ LB1.out | refine below_set ?_ LB2.out) | exact HB.out))
   rintro e w6 ⟨rfl, hi, hb, hk⟩
   generalize hE : markS (bytes ⟨#[46, 46]⟩) r5.2 = s6 at hi ⊢
   have Es6 := mk0 hE
   clear hE
   have n0_ := mk0 hi
   have n1_ := mk0 hb
   have n2_ := mk0 (KeepBut.trans (by (repeat (first | (with_reducible first | exact HK.out | apply keep_drewN | apply keep_drew | apply keep_alloc | refine keep_far ?_ LW1.out _ | refine keep_far ?_ LW2.out _) | exact HK.out))) hk (Or.inl rfl))
   clear HI HB HK
   have HI := n0_
   have HB := n1_
   have HK := n2_
   clear n0_ n1_ n2_ hi hb
   have u1_ := mk0 (show w6.heap[w.heap.size]? = some (.cells zPr 168 (0, 0)) from (hk.2 _ (by have := blk_lt BX1.out; exact this) (by have := NG1.out; omega) (by simp)).trans BX1.out)
   have u2_ := mk0 (show w6.heap[w1.heap.size]? = some (.cells #[.string ⟨r1.1.toArray⟩, .int .i64 1, .int .i64 r5.1, .int .i64 0, .string ⟨#[]⟩] 168 (0, 0)) from (hk.2 _ (by have := blk_lt BX2.out; exact this) (by have := NG2.out; omega) (by simp)).trans BX2.out)
   clear BX1 BX2 hk
   have BX1 := u1_
   have BX2 := u2_
   clear u1_ u2_
   go_wp2_with fail
   (with_reducible refine (number_P (w0 := w0) (st := s6) hs ?side1 ?side2).mono ?_)
   case side1 => (repeat (first | (with_reducible first | exact HI.out | apply IsP.alloc | apply IsP.drewN | apply IsP.drew | refine IsP.far ?_ NG1.out | refine IsP.far ?_ NG2.out) | exact HI.out))
   case side2 => (repeat (first | (with_reducible first | exact HB.out | apply below_alloc | apply pw_below_drewN | apply below_drew1 | refine below_set ?_ LB1.out | refine below_set ?_ LB2.out) | exact HB.out))
   rintro e w7 ⟨rfl, hi, hb, hk⟩
   generalize hE : numberS s6 = r7 at hi ⊢
   have Er7 := mk0 hE
   clear hE
   have n0_ := mk0 hi
   have n1_ := mk0 hb
   have n2_ := mk0 (KeepBut.trans (by (repeat (first | (with_reducible first | exact HK.out | apply keep_drewN | apply keep_drew | apply keep_alloc | refine keep_far ?_ LW1.out _ | refine keep_far ?_ LW2.out _) | exact HK.out))) hk (Or.inl rfl))
   clear HI HB HK
   have HI := n0_
   have HB := n1_
   have HK := n2_
   clear n0_ n1_ n2_ hi hb
   have u1_ := mk0 (show w7.heap[w.heap.size]? = some (.cells zPr 168 (0, 0)) from (hk.2 _ (by have := blk_lt BX1.out; exact this) (by have := NG1.out; omega) (by simp)).trans BX1.out)
   have u2_ := mk0 (show w7.heap[w1.heap.size]? = some (.cells #[.string ⟨r1.1.toArray⟩, .int .i64 1, .int .i64 r5.1, .int .i64 0, .string ⟨#[]⟩] 168 (0, 0)) from (hk.2 _ (by have := blk_lt BX2.out; exact this) (by have := NG2.out; omega) (by simp)).trans BX2.out)
   clear BX1 BX2 hk
   have BX1 := u1_
   have BX2 := u2_
   clear u1_ u2_
   have hx20 := blk_cell BX2.out 0
   have hx21 := blk_cell BX2.out 1
   have hx22 := blk_cell BX2.out 2
   have hx23 := blk_cell BX2.out 3
   have hx24 := blk_cell BX2.out 4
   have hy20 := blk_frozen BX2.out 0
   have hy21 := blk_frozen BX2.out 1
   have hy22 := blk_frozen BX2.out 2
   have hy23 := blk_frozen BX2.out 3
   have hy24 := blk_frozen BX2.out 4
   have hx10 := (blk_cell BX1.out 0).trans (show zPr[0]? = some (.string ⟨#[]⟩) from rfl)
   have hx11 := (blk_cell BX1.out 1).trans (show zPr[1]? = some (.int .i64 0) from rfl)
   have hx12 := (blk_cell BX1.out 2).trans (show zPr[2]? = some (.int .i64 0) from rfl)
   have hx13 := (blk_cell BX1.out 3).trans (show zPr[3]? = some (.int .i64 0) from rfl)
   have hx14 := (blk_cell BX1.out 4).trans (show zPr[4]? = some (.string ⟨#[]⟩) from rfl)
   have hy10 := blk_frozen BX1.out 0
   have hy11 := blk_frozen BX1.out 1
   have hy12 := blk_frozen BX1.out 2
   have hy13 := blk_frozen BX1.out 3
   have hy14 := blk_frozen BX1.out 4
   have hne1 : ¬ (w.heap.size = w1.heap.size) := by have := HS1.out; omega
   have hne2 : ¬ (w1.heap.size = w.heap.size) := by have := HS1.out; omega
   go_wp2
   refine bodyPost_ret (v := prV ⟨r1.1, 1, r5.1, r7.1, []⟩) ?_ rfl ?_
   ·
    simp [results, Tryz.results143, go_sem, prV, hne1, hne2, hx10, hx11, hx12, hx13, hx14]
   ·
    (rw [show predS st = (⟨r1.1, 1, r5.1, r7.1, []⟩, r7.2) from by unfold predS; simp only [Er1.out, Es2.out]; rw [if_neg (by simp [HL2.out]), if_neg (by simp [HL2.out])]; unfold inS; simp only [Er3.out, ES4.out, Er5.out]; rw [show markS [46, 46] r5.2 = s6 from Es6.out, Er7.out]]; exact ⟨rfl, by (repeat (first | (with_reducible first | exact HI.out | apply IsP.alloc | apply IsP.drewN | apply IsP.drew | refine IsP.far ?_ NG1.out | refine IsP.far ?_ NG2.out) | exact HI.out)), by (repeat (first | (with_reducible first | exact HB.out | apply below_alloc | apply pw_below_drewN | apply below_drew1 | refine below_set ?_ LB1.out | refine below_set ?_ LB2.out) | exact HB.out)), by (repeat (first | (with_reducible first | exact HK.out | apply keep_drewN | apply keep_drew | apply keep_alloc | refine keep_far ?_ LW1.out _ | refine keep_far ?_ LW2.out _) | exact HK.out))⟩)
  ·
   have t1 : (r3.1 == ([105, 110] : List UInt8)) = false := by simpa using hin
   have HIN := mk0 (show ¬ r3.1 = [105, 110] from hin)
   clear hin
   go_wp2_with fail
   rw [show (q : Int) = ((s.size - s2.l.length : Nat) : Int) by rw [EQ.out]]
   go_wp2_with fail
   (with_reducible refine (stop_P (w0 := w0) (st := r3.2) s2.l.length (P_le HOK.out) ?side1 ?side2).mono ?_)
   case side1 => (repeat (first | (with_reducible first | exact HI.out | apply IsP.alloc | apply IsP.drewN | apply IsP.drew | refine IsP.far ?_ NG1.out | refine IsP.far ?_ NG2.out) | exact HI.out))
   case side2 => (repeat (first | (with_reducible first | exact HB.out | apply below_alloc | apply pw_below_drewN | apply below_drew1 | refine below_set ?_ LB1.out | refine below_set ?_ LB2.out) | exact HB.out))
   rintro e w4 ⟨rfl, hi, hb, hk⟩
   generalize hE : stopS r3.2 s2.l.length = s4 at hi ⊢
   have Es4 := mk0 hE
   clear hE
   have n0_ := mk0 hi
   have n1_ := mk0 hb
   have n2_ := mk0 (KeepBut.trans (by (repeat (first | (with_reducible first | exact HK.out | apply keep_drewN | apply keep_drew | apply keep_alloc | refine keep_far ?_ LW1.out _ | refine keep_far ?_ LW2.out _) | exact HK.out))) hk (Or.inl rfl))
   clear HI HB HK
   have HI := n0_
   have HB := n1_
   have HK := n2_
   clear n0_ n1_ n2_ hi hb
   have u1_ := mk0 (show w4.heap[w.heap.size]? = some (.cells zPr 168 (0, 0)) from (hk.2 _ (by have := blk_lt BX1.out; exact this) (by have := NG1.out; omega) (by simp)).trans BX1.out)
   have u2_ := mk0 (show w4.heap[w1.heap.size]? = some (.cells #[.string ⟨r1.1.toArray⟩, .int .i64 0, .int .i64 0, .int .i64 0, .string ⟨#[]⟩] 168 (0, 0)) from (hk.2 _ (by have := blk_lt BX2.out; exact this) (by have := NG2.out; omega) (by simp)).trans BX2.out)
   clear BX1 BX2 hk
   have BX1 := u1_
   have BX2 := u2_
   clear u1_ u2_
   have ES4 := mk0 (show (if r3.1 = [105, 110] then r3.2 else stopS r3.2 s2.l.length) = s4 by rw [if_neg HIN.out]; exact Es4.out)
   go_wp2_with fail
   go_wp2_with fail
   (with_reducible refine (number_P (w0 := w0) (st := s4) hs ?side1 ?side2).mono ?_)
   case side1 => (repeat (first | (with_reducible first | exact HI.out | apply IsP.alloc | apply IsP.drewN | apply IsP.drew | refine IsP.far ?_ NG1.out | refine IsP.far ?_ NG2.out) | exact HI.out))
   case side2 => (repeat (first | (with_reducible first | exact HB.out | apply below_alloc | apply pw_below_drewN | apply below_drew1 | refine below_set ?_ LB1.out | refine below_set ?_ LB2.out) | exact HB.out))
   rintro e w5 ⟨rfl, hi, hb, hk⟩
   generalize hE : numberS s4 = r5 at hi ⊢
   have Er5 := mk0 hE
   clear hE
   have n0_ := mk0 hi
   have n1_ := mk0 hb
   have n2_ := mk0 (KeepBut.trans (by (repeat (first | (with_reducible first | exact HK.out | apply keep_drewN | apply keep_drew | apply keep_alloc | refine keep_far ?_ LW1.out _ | refine keep_far ?_ LW2.out _) | exact HK.out))) hk (Or.inl rfl))
   clear HI HB HK
   have HI := n0_
   have HB := n1_
   have HK := n2_
   clear n0_ n1_ n2_ hi hb
   have u1_ := mk0 (show w5.heap[w.heap.size]? = some (.cells zPr 168 (0, 0)) from (hk.2 _ (by have := blk_lt BX1.out; exact this) (by have := NG1.out; omega) (by simp)).trans BX1.out)
   have u2_ := mk0 (show w5.heap[w1.heap.size]? = some (.cells #[.string ⟨r1.1.toArray⟩, .int .i64 0, .int .i64 0, .int .i64 0, .string ⟨#[]⟩] 168 (0, 0)) from (hk.2 _ (by have := blk_lt BX2.out; exact this) (by have := NG2.out; omega) (by simp)).trans BX2.out)
   clear BX1 BX2 hk
   have BX1 := u1_
   have BX2 := u2_
   clear u1_ u2_
   have hx20 := blk_cell BX2.out 0
   have hx21 := blk_cell BX2.out 1
   have hx22 := blk_cell BX2.out 2
   have hx23 := blk_cell BX2.out 3
   have hx24 := blk_cell BX2.out 4
   have hy20 := blk_frozen BX2.out 0
   have hy21 := blk_frozen BX2.out 1
   have hy22 := blk_frozen BX2.out 2
   have hy23 := blk_frozen BX2.out 3
   have hy24 := blk_frozen BX2.out 4
   go_wp2_with fail
   clear hx20 hx21 hx22 hx23 hx24 hy20 hy21 hy22 hy23 hy24
   have u2_ := mk0 (show ((w5.setCell ⟨w1.heap.size, 1, none⟩ (.int .i64 1)).setCell ⟨w1.heap.size, 2, none⟩ (.int .i64 r5.1)).heap[w1.heap.size]? = some (.cells #[.string ⟨r1.1.toArray⟩, .int .i64 1, .int .i64 r5.1, .int .i64 0, .string ⟨#[]⟩] 168 (0, 0)) by simpa using blk_set (blk_set BX2.out 1 (.int .i64 1)) 2 (.int .i64 r5.1))
   have u1_ := mk0 (show ((w5.setCell ⟨w1.heap.size, 1, none⟩ (.int .i64 1)).setCell ⟨w1.heap.size, 2, none⟩ (.int .i64 r5.1)).heap[w.heap.size]? = some (.cells zPr 168 (0, 0)) from blk_far (blk_far BX1.out (p := ⟨w1.heap.size, 1, none⟩) (by have := HS1.out; show w.heap.size ≠ w1.heap.size; omega) _) (p := ⟨w1.heap.size, 2, none⟩) (by have := HS1.out; show w.heap.size ≠ w1.heap.size; omega) _)
   clear BX1 BX2
   have BX1 := u1_
   have BX2 := u2_
   clear u1_ u2_
   go_wp2_with fail
   (with_reducible refine (mark_P (w0 := w0) (st := r5.2) ⟨#[46, 46]⟩ (by decide) hs ?side1 ?side2).mono ?_)
   case side1 => (repeat (first | (with_reducible first | exact HI.out | apply IsP.alloc | apply IsP.drewN | apply IsP.drew | refine IsP.far ?_ NG1.out | refine IsP.far ?_ NG2.out) | exact HI.out))
   case side2 => (repeat (first | (with_reducible first | exact HB.out | apply below_alloc | apply pw_below_drewN | apply below_drew1 | refine below_set ?_ LB1.out | refine below_set ?_ LB2.out) | exact HB.out))
   rintro e w6 ⟨rfl, hi, hb, hk⟩
   generalize hE : markS (bytes ⟨#[46, 46]⟩) r5.2 = s6 at hi ⊢
   have Es6 := mk0 hE
   clear hE
   have n0_ := mk0 hi
   have n1_ := mk0 hb
   have n2_ := mk0 (KeepBut.trans (by (repeat (first | (with_reducible first | exact HK.out | apply keep_drewN | apply keep_drew | apply keep_alloc | refine keep_far ?_ LW1.out _ | refine keep_far ?_ LW2.out _) | exact HK.out))) hk (Or.inl rfl))
   clear HI HB HK
   have HI := n0_
   have HB := n1_
   have HK := n2_
   clear n0_ n1_ n2_ hi hb
   have u1_ := mk0 (show w6.heap[w.heap.size]? = some (.cells zPr 168 (0, 0)) from (hk.2 _ (by have := blk_lt BX1.out; exact this) (by have := NG1.out; omega) (by simp)).trans BX1.out)
   have u2_ := mk0 (show w6.heap[w1.heap.size]? = some (.cells #[.string ⟨r1.1.toArray⟩, .int .i64 1, .int .i64 r5.1, .int .i64 0, .string ⟨#[]⟩] 168 (0, 0)) from (hk.2 _ (by have := blk_lt BX2.out; exact this) (by have := NG2.out; omega) (by simp)).trans BX2.out)
   clear BX1 BX2 hk
   have BX1 := u1_
   have BX2 := u2_
   clear u1_ u2_
   go_wp2_with fail
   (with_reducible refine (number_P (w0 := w0) (st := s6) hs ?side1 ?side2).mono ?_)
   case side1 => (repeat (first | (with_reducible first | exact HI.out | apply IsP.alloc | apply IsP.drewN | apply IsP.drew | refine IsP.far ?_ NG1.out | refine IsP.far ?_ NG2.out) | exact HI.out))
   case side2 => (repeat (first | (with_reducible first | exact HB.out | apply below_alloc | apply pw_below_drewN | apply below_drew1 | refine below_set ?_ LB1.out | refine below_set ?_ LB2.out) | exact HB.out))
   rintro e w7 ⟨rfl, hi, hb, hk⟩
   generalize hE : numberS s6 = r7 at hi ⊢
   have Er7 := mk0 hE
   clear hE
   have n0_ := mk0 hi
   have n1_ := mk0 hb
   have n2_ := mk0 (KeepBut.trans (by (repeat (first | (with_reducible first | exact HK.out | apply keep_drewN | apply keep_drew | apply keep_alloc | refine keep_far ?_ LW1.out _ | refine keep_far ?_ LW2.out _) | exact HK.out))) hk (Or.inl rfl))
   clear HI HB HK
   have HI := n0_
   have HB := n1_
   have HK := n2_
   clear n0_ n1_ n2_ hi hb
   have u1_ := mk0 (show w7.heap[w.heap.size]? = some (.cells zPr 168 (0, 0)) from (hk.2 _ (by have := blk_lt BX1.out; exact this) (by have := NG1.out; omega) (by simp)).trans BX1.out)
   have u2_ := mk0 (show w7.heap[w1.heap.size]? = some (.cells #[.string ⟨r1.1.toArray⟩, .int .i64 1, .int .i64 r5.1, .int .i64 0, .string ⟨#[]⟩] 168 (0, 0)) from (hk.2 _ (by have := blk_lt BX2.out; exact this) (by have := NG2.out; omega) (by simp)).trans BX2.out)
   clear BX1 BX2 hk
   have BX1 := u1_
   have BX2 := u2_
   clear u1_ u2_
   have hx20 := blk_cell BX2.out 0
   have hx21 := blk_cell BX2.out 1
   have hx22 := blk_cell BX2.out 2
   have hx23 := blk_cell BX2.out 3
   have hx24 := blk_cell BX2.out 4
   have hy20 := blk_frozen BX2.out 0
   have hy21 := blk_frozen BX2.out 1
   have hy22 := blk_frozen BX2.out 2
   have hy23 := blk_frozen BX2.out 3
   have hy24 := blk_frozen BX2.out 4
   have hx10 := (blk_cell BX1.out 0).trans (show zPr[0]? = some (.string ⟨#[]⟩) from rfl)
   have hx11 := (blk_cell BX1.out 1).trans (show zPr[1]? = some (.int .i64 0) from rfl)
   have hx12 := (blk_cell BX1.out 2).trans (show zPr[2]? = some (.int .i64 0) from rfl)
   have hx13 := (blk_cell BX1.out 3).trans (show zPr[3]? = some (.int .i64 0) from rfl)
   have hx14 := (blk_cell BX1.out 4).trans (show zPr[4]? = some (.string ⟨#[]⟩) from rfl)
   have hy10 := blk_frozen BX1.out 0
   have hy11 := blk_frozen BX1.out 1
   have hy12 := blk_frozen BX1.out 2
   have hy13 := blk_frozen BX1.out 3
   have hy14 := blk_frozen BX1.out 4
   have hne1 : ¬ (w.heap.size = w1.heap.size) := by have := HS1.out; omega
   have hne2 : ¬ (w1.heap.size = w.heap.size) := by have := HS1.out; omega
   go_wp2
   refine bodyPost_ret (v := prV ⟨r1.1, 1, r5.1, r7.1, []⟩) ?_ rfl ?_
   ·
    simp [results, Tryz.results143, go_sem, prV, hne1, hne2, hx10, hx11, hx12, hx13, hx14]
   ·
    (rw [show predS st = (⟨r1.1, 1, r5.1, r7.1, []⟩, r7.2) from by unfold predS; simp only [Er1.out, Es2.out]; rw [if_neg (by simp [HL2.out]), if_neg (by simp [HL2.out])]; unfold inS; simp only [Er3.out, ES4.out, Er5.out]; rw [show markS [46, 46] r5.2 = s6 from Es6.out, Er7.out]]; exact ⟨rfl, by (repeat (first | (with_reducible first | exact HI.out | apply IsP.alloc | apply IsP.drewN | apply IsP.drew | refine IsP.far ?_ NG1.out | refine IsP.far ?_ NG2.out) | exact HI.out)), by (repeat (first | (with_reducible first | exact HB.out | apply below_alloc | apply pw_below_drewN | apply below_drew1 | refine below_set ?_ LB1.out | refine below_set ?_ LB2.out) | exact HB.out)), by (repeat (first | (with_reducible first | exact HK.out | apply keep_drewN | apply keep_drew | apply keep_alloc | refine keep_far ?_ LW1.out _ | refine keep_far ?_ LW2.out _) | exact HK.out))⟩)
 | cons c r =>
  rw [hl] at hqd
  obtain ⟨hlt, hbt, _⟩ := bt_cons hqd
  have hcc := dropB_cons hlt
  rw [hqd] at hcc
  have hx : ∀ h : q < s.size, s[q]'h = c := fun _ => by injection hcc with h5; exact h5.symm
  have q1 := decide_eq_true (show ((q : Int) < (s.size : Int)) by omega)
  have q2 := eq_true (show ((q : Int) < (s.size : Int)) by omega)
  have q3 := eq_true (show (0 : Int) ≤ (q : Int) by omega)
  have HL2 := mk0 hl
  clear hl hqd hcc hbt
  by_cases h61 : c = 61
  ·
   have e61 : ((c.toNat : Int) == 61) = true := by rw [h61]; rfl
   have HC := mk0 h61
   clear h61
   go_wp2_with fail
   repeat (go_quiet (fail); try go_wp2_with fail)
   clear hc0 hc1 hc2 hf0 hf1 hf2 q1 q2 q3 hx
   go_wp2_with fail
   (with_reducible refine (mark_P (w0 := w0) (st := s2) ⟨#[61]⟩ (by decide) hs ?side1 ?side2).mono ?_)
   case side1 => (repeat (first | (with_reducible first | exact HI.out | apply IsP.alloc | apply IsP.drewN | apply IsP.drew | refine IsP.far ?_ NG1.out | refine IsP.far ?_ NG2.out) | exact HI.out))
   case side2 => (repeat (first | (with_reducible first | exact HB.out | apply below_alloc | apply pw_below_drewN | apply below_drew1 | refine below_set ?_ LB1.out | refine below_set ?_ LB2.out) | exact HB.out))
   rintro e w3 ⟨rfl, hi, hb, hk⟩
   generalize hE : markS (bytes ⟨#[61]⟩) s2 = s3 at hi ⊢
   have Es3 := mk0 hE
   clear hE
   have n0_ := mk0 hi
   have n1_ := mk0 hb
   have n2_ := mk0 (KeepBut.trans (by (repeat (first | (with_reducible first | exact HK.out | apply keep_drewN | apply keep_drew | apply keep_alloc | refine keep_far ?_ LW1.out _ | refine keep_far ?_ LW2.out _) | exact HK.out))) hk (Or.inl rfl))
   clear HI HB HK
   have HI := n0_
   have HB := n1_
   have HK := n2_
   clear n0_ n1_ n2_ hi hb
   have u1_ := mk0 (show w3.heap[w.heap.size]? = some (.cells zPr 168 (0, 0)) from (hk.2 _ (by have := blk_lt BX1.out; exact this) (by have := NG1.out; omega) (by simp)).trans BX1.out)
   have u2_ := mk0 (show w3.heap[w1.heap.size]? = some (.cells #[.string ⟨r1.1.toArray⟩, .int .i64 0, .int .i64 0, .int .i64 0, .string ⟨#[]⟩] 168 (0, 0)) from (hk.2 _ (by have := blk_lt BX2.out; exact this) (by have := NG2.out; omega) (by simp)).trans BX2.out)
   clear BX1 BX2 hk
   have BX1 := u1_
   have BX2 := u2_
   clear u1_ u2_
   go_wp2_with fail
   (with_reducible refine (text_P (w0 := w0) (st := s3) hs ?side1 ?side2).mono ?_)
   case side1 => (repeat (first | (with_reducible first | exact HI.out | apply IsP.alloc | apply IsP.drewN | apply IsP.drew | refine IsP.far ?_ NG1.out | refine IsP.far ?_ NG2.out) | exact HI.out))
   case side2 => (repeat (first | (with_reducible first | exact HB.out | apply below_alloc | apply pw_below_drewN | apply below_drew1 | refine below_set ?_ LB1.out | refine below_set ?_ LB2.out) | exact HB.out))
   rintro e w4 ⟨rfl, hi, hb, hk⟩
   generalize hE : textS s3 = r4 at hi ⊢
   have Er4 := mk0 hE
   clear hE
   have n0_ := mk0 hi
   have n1_ := mk0 hb
   have n2_ := mk0 (KeepBut.trans (by (repeat (first | (with_reducible first | exact HK.out | apply keep_drewN | apply keep_drew | apply keep_alloc | refine keep_far ?_ LW1.out _ | refine keep_far ?_ LW2.out _) | exact HK.out))) hk (Or.inl rfl))
   clear HI HB HK
   have HI := n0_
   have HB := n1_
   have HK := n2_
   clear n0_ n1_ n2_ hi hb
   have u1_ := mk0 (show w4.heap[w.heap.size]? = some (.cells zPr 168 (0, 0)) from (hk.2 _ (by have := blk_lt BX1.out; exact this) (by have := NG1.out; omega) (by simp)).trans BX1.out)
   have u2_ := mk0 (show w4.heap[w1.heap.size]? = some (.cells #[.string ⟨r1.1.toArray⟩, .int .i64 0, .int .i64 0, .int .i64 0, .string ⟨#[]⟩] 168 (0, 0)) from (hk.2 _ (by have := blk_lt BX2.out; exact this) (by have := NG2.out; omega) (by simp)).trans BX2.out)
   clear BX1 BX2 hk
   have BX1 := u1_
   have BX2 := u2_
   clear u1_ u2_
   have hx20 := blk_cell BX2.out 0
   have hx21 := blk_cell BX2.out 1
   have hx22 := blk_cell BX2.out 2
   have hx23 := blk_cell BX2.out 3
   have hx24 := blk_cell BX2.out 4
   have hy20 := blk_frozen BX2.out 0
   have hy21 := blk_frozen BX2.out 1
   have hy22 := blk_frozen BX2.out 2
   have hy23 := blk_frozen BX2.out 3
   have hy24 := blk_frozen BX2.out 4
   have hx10 := (blk_cell BX1.out 0).trans (show zPr[0]? = some (.string ⟨#[]⟩) from rfl)
   have hx11 := (blk_cell BX1.out 1).trans (show zPr[1]? = some (.int .i64 0) from rfl)
   have hx12 := (blk_cell BX1.out 2).trans (show zPr[2]? = some (.int .i64 0) from rfl)
   have hx13 := (blk_cell BX1.out 3).trans (show zPr[3]? = some (.int .i64 0) from rfl)
   have hx14 := (blk_cell BX1.out 4).trans (show zPr[4]? = some (.string ⟨#[]⟩) from rfl)
   have hy10 := blk_frozen BX1.out 0
   have hy11 := blk_frozen BX1.out 1
   have hy12 := blk_frozen BX1.out 2
   have hy13 := blk_frozen BX1.out 3
   have hy14 := blk_frozen BX1.out 4
   have hne1 : ¬ (w.heap.size = w1.heap.size) := by have := HS1.out; omega
   have hne2 : ¬ (w1.heap.size = w.heap.size) := by have := HS1.out; omega
   go_wp2
   refine bodyPost_ret (v := prV ⟨r1.1, 2, 0, 0, r4.1⟩) ?_ rfl ?_
   ·
    simp [results, Tryz.results143, go_sem, prV, hne1, hne2, hx10, hx11, hx12, hx13, hx14]
   ·
    (rw [show predS st = (⟨r1.1, 2, 0, 0, r4.1⟩, r4.2) from by unfold predS; simp only [Er1.out, Es2.out, HL2.out, HC.out, List.head?_cons, if_true]; rw [show markS [61] s2 = s3 from Es3.out, Er4.out]]; exact ⟨rfl, by (repeat (first | (with_reducible first | exact HI.out | apply IsP.alloc | apply IsP.drewN | apply IsP.drew | refine IsP.far ?_ NG1.out | refine IsP.far ?_ NG2.out) | exact HI.out)), by (repeat (first | (with_reducible first | exact HB.out | apply below_alloc | apply pw_below_drewN | apply below_drew1 | refine below_set ?_ LB1.out | refine below_set ?_ LB2.out) | exact HB.out)), by (repeat (first | (with_reducible first | exact HK.out | apply keep_drewN | apply keep_drew | apply keep_alloc | refine keep_far ?_ LW1.out _ | refine keep_far ?_ LW2.out _) | exact HK.out))⟩)
  ·
   have e61 : ((c.toNat : Int) == 61) = false := by rw [show (61 : Int) = ((61 : Nat) : Int) from rfl, c_eq (by decide)]; simpa using h61
   by_cases h94 : c = 94
   ·
    have e94 : ((c.toNat : Int) == 94) = true := by rw [h94]; rfl
    have HC := mk0 h94
    clear h61 h94
    go_wp2_with fail
    repeat (go_quiet (fail); try go_wp2_with fail)
    clear hc0 hc1 hc2 hf0 hf1 hf2 q1 q2 q3 hx
    go_wp2_with fail
    (with_reducible refine (mark_P (w0 := w0) (st := s2) ⟨#[94, 61]⟩ (by decide) hs ?side1 ?side2).mono ?_)
    case side1 => (repeat (first | (with_reducible first | exact HI.out | apply IsP.alloc | apply IsP.drewN | apply IsP.drew | refine IsP.far ?_ NG1.out | refine IsP.far ?_ NG2.out) | exact HI.out))
    case side2 => (repeat (first | (with_reducible first | exact HB.out | apply below_alloc | apply pw_below_drewN | apply below_drew1 | refine below_set ?_ LB1.out | refine below_set ?_ LB2.out) | exact HB.out))
    rintro e w3 ⟨rfl, hi, hb, hk⟩
    generalize hE : markS (bytes ⟨#[94, 61]⟩) s2 = s3 at hi ⊢
    have Es3 := mk0 hE
    clear hE
    have n0_ := mk0 hi
    have n1_ := mk0 hb
    have n2_ := mk0 (KeepBut.trans (by (repeat (first | (with_reducible first | exact HK.out | apply keep_drewN | apply keep_drew | apply keep_alloc | refine keep_far ?_ LW1.out _ | refine keep_far ?_ LW2.out _) | exact HK.out))) hk (Or.inl rfl))
    clear HI HB HK
    have HI := n0_
    have HB := n1_
    have HK := n2_
    clear n0_ n1_ n2_ hi hb
    have u1_ := mk0 (show w3.heap[w.heap.size]? = some (.cells zPr 168 (0, 0)) from (hk.2 _ (by have := blk_lt BX1.out; exact this) (by have := NG1.out; omega) (by simp)).trans BX1.out)
    have u2_ := mk0 (show w3.heap[w1.heap.size]? = some (.cells #[.string ⟨r1.1.toArray⟩, .int .i64 0, .int .i64 0, .int .i64 0, .string ⟨#[]⟩] 168 (0, 0)) from (hk.2 _ (by have := blk_lt BX2.out; exact this) (by have := NG2.out; omega) (by simp)).trans BX2.out)
    clear BX1 BX2 hk
    have BX1 := u1_
    have BX2 := u2_
    clear u1_ u2_
    go_wp2_with fail
    (with_reducible refine (text_P (w0 := w0) (st := s3) hs ?side1 ?side2).mono ?_)
    case side1 => (repeat (first | (with_reducible first | exact HI.out | apply IsP.alloc | apply IsP.drewN | apply IsP.drew | refine IsP.far ?_ NG1.out | refine IsP.far ?_ NG2.out) | exact HI.out))
    case side2 => (repeat (first | (with_reducible first | exact HB.out | apply below_alloc | apply pw_below_drewN | apply below_drew1 | refine below_set ?_ LB1.out | refine below_set ?_ LB2.out) | exact HB.out))
    rintro e w4 ⟨rfl, hi, hb, hk⟩
    generalize hE : textS s3 = r4 at hi ⊢
    have Er4 := mk0 hE
    clear hE
    have n0_ := mk0 hi
    have n1_ := mk0 hb
    have n2_ := mk0 (KeepBut.trans (by (repeat (first | (with_reducible first | exact HK.out | apply keep_drewN | apply keep_drew | apply keep_alloc | refine keep_far ?_ LW1.out _ | refine keep_far ?_ LW2.out _) | exact HK.out))) hk (Or.inl rfl))
    clear HI HB HK
    have HI := n0_
    have HB := n1_
    have HK := n2_
    clear n0_ n1_ n2_ hi hb
    have u1_ := mk0 (show w4.heap[w.heap.size]? = some (.cells zPr 168 (0, 0)) from (hk.2 _ (by have := blk_lt BX1.out; exact this) (by have := NG1.out; omega) (by simp)).trans BX1.out)
    have u2_ := mk0 (show w4.heap[w1.heap.size]? = some (.cells #[.string ⟨r1.1.toArray⟩, .int .i64 0, .int .i64 0, .int .i64 0, .string ⟨#[]⟩] 168 (0, 0)) from (hk.2 _ (by have := blk_lt BX2.out; exact this) (by have := NG2.out; omega) (by simp)).trans BX2.out)
    clear BX1 BX2 hk
    have BX1 := u1_
    have BX2 := u2_
    clear u1_ u2_
    have hx20 := blk_cell BX2.out 0
    have hx21 := blk_cell BX2.out 1
    have hx22 := blk_cell BX2.out 2
    have hx23 := blk_cell BX2.out 3
    have hx24 := blk_cell BX2.out 4
    have hy20 := blk_frozen BX2.out 0
    have hy21 := blk_frozen BX2.out 1
    have hy22 := blk_frozen BX2.out 2
    have hy23 := blk_frozen BX2.out 3
    have hy24 := blk_frozen BX2.out 4
    have hx10 := (blk_cell BX1.out 0).trans (show zPr[0]? = some (.string ⟨#[]⟩) from rfl)
    have hx11 := (blk_cell BX1.out 1).trans (show zPr[1]? = some (.int .i64 0) from rfl)
    have hx12 := (blk_cell BX1.out 2).trans (show zPr[2]? = some (.int .i64 0) from rfl)
    have hx13 := (blk_cell BX1.out 3).trans (show zPr[3]? = some (.int .i64 0) from rfl)
    have hx14 := (blk_cell BX1.out 4).trans (show zPr[4]? = some (.string ⟨#[]⟩) from rfl)
    have hy10 := blk_frozen BX1.out 0
    have hy11 := blk_frozen BX1.out 1
    have hy12 := blk_frozen BX1.out 2
    have hy13 := blk_frozen BX1.out 3
    have hy14 := blk_frozen BX1.out 4
    have hne1 : ¬ (w.heap.size = w1.heap.size) := by have := HS1.out; omega
    have hne2 : ¬ (w1.heap.size = w.heap.size) := by have := HS1.out; omega
    go_wp2
    refine bodyPost_ret (v := prV ⟨r1.1, 3, 0, 0, r4.1⟩) ?_ rfl ?_
    ·
     simp [results, Tryz.results143, go_sem, prV, hne1, hne2, hx10, hx11, hx12, hx13, hx14]
    ·
     (rw [show predS st = (⟨r1.1, 3, 0, 0, r4.1⟩, r4.2) from by unfold predS; simp only [Er1.out, Es2.out, HL2.out, HC.out, List.head?_cons]; rw [if_neg (by simp), if_pos trivial, show markS [94, 61] s2 = s3 from Es3.out, Er4.out]]; exact ⟨rfl, by (repeat (first | (with_reducible first | exact HI.out | apply IsP.alloc | apply IsP.drewN | apply IsP.drew | refine IsP.far ?_ NG1.out | refine IsP.far ?_ NG2.out) | exact HI.out)), by (repeat (first | (with_reducible first | exact HB.out | apply below_alloc | apply pw_below_drewN | apply below_drew1 | refine below_set ?_ LB1.out | refine below_set ?_ LB2.out) | exact HB.out)), by (repeat (first | (with_reducible first | exact HK.out | apply keep_drewN | apply keep_drew | apply keep_alloc | refine keep_far ?_ LW1.out _ | refine keep_far ?_ LW2.out _) | exact HK.out))⟩)
   ·
    have e94 : ((c.toNat : Int) == 94) = false := by rw [show (94 : Int) = ((94 : Nat) : Int) from rfl, c_eq (by decide)]; simpa using h94
    have H61 := mk0 h61
    have H94 := mk0 h94
    clear h61 h94
    go_wp2_with fail
    repeat (go_quiet (fail); try go_wp2_with fail)
    go_wp2_with fail
    (with_reducible refine (word_P (w0 := w0) (st := s2) hs ?side1 ?side2).mono ?_)
    case side1 => (repeat (first | (with_reducible first | exact HI.out | apply IsP.alloc | apply IsP.drewN | apply IsP.drew | refine IsP.far ?_ NG1.out | refine IsP.far ?_ NG2.out) | exact HI.out))
    case side2 => (repeat (first | (with_reducible first | exact HB.out | apply below_alloc | apply pw_below_drewN | apply below_drew1 | refine below_set ?_ LB1.out | refine below_set ?_ LB2.out) | exact HB.out))
    rintro e w3 ⟨rfl, hi, hb, hk⟩
    generalize hE : wordS s2 = r3 at hi ⊢
    have Er3 := mk0 hE
    clear hE
    have n0_ := mk0 hi
    have n1_ := mk0 hb
    have n2_ := mk0 (KeepBut.trans (by (repeat (first | (with_reducible first | exact HK.out | apply keep_drewN | apply keep_drew | apply keep_alloc | refine keep_far ?_ LW1.out _ | refine keep_far ?_ LW2.out _) | exact HK.out))) hk (Or.inl rfl))
    clear HI HB HK
    have HI := n0_
    have HB := n1_
    have HK := n2_
    clear n0_ n1_ n2_ hi hb
    have u1_ := mk0 (show w3.heap[w.heap.size]? = some (.cells zPr 168 (0, 0)) from (hk.2 _ (by have := blk_lt BX1.out; exact this) (by have := NG1.out; omega) (by simp)).trans BX1.out)
    have u2_ := mk0 (show w3.heap[w1.heap.size]? = some (.cells #[.string ⟨r1.1.toArray⟩, .int .i64 0, .int .i64 0, .int .i64 0, .string ⟨#[]⟩] 168 (0, 0)) from (hk.2 _ (by have := blk_lt BX2.out; exact this) (by have := NG2.out; omega) (by simp)).trans BX2.out)
    clear BX1 BX2 hk
    have BX1 := u1_
    have BX2 := u2_
    clear u1_ u2_
    by_cases hin : r3.1 = [105, 110]
    ·
     have t1 : (r3.1 == ([105, 110] : List UInt8)) = true := by simpa using hin
     have HIN := mk0 (show r3.1 = [105, 110] from hin)
     clear hin
     obtain ⟨s4, hs4⟩ : ∃ s4, r3.2 = s4 := ⟨_, rfl⟩
     have ES4 := mk0 (show (if r3.1 = [105, 110] then r3.2 else stopS r3.2 s2.l.length) = s4 by rw [if_pos HIN.out]; exact hs4)
     rw [hs4] at HI
     clear hs4
     go_wp2_with fail
     go_wp2_with fail
     (with_reducible refine (number_P (w0 := w0) (st := s4) hs ?side1 ?side2).mono ?_)
     case side1 => (repeat (first | (with_reducible first | exact HI.out | apply IsP.alloc | apply IsP.drewN | apply IsP.drew | refine IsP.far ?_ NG1.out | refine IsP.far ?_ NG2.out) | exact HI.out))
     case side2 => (repeat (first | (with_reducible first | exact HB.out | apply below_alloc | apply pw_below_drewN | apply below_drew1 | refine below_set ?_ LB1.out | refine below_set ?_ LB2.out) | exact HB.out))
     rintro e w5 ⟨rfl, hi, hb, hk⟩
     generalize hE : numberS s4 = r5 at hi ⊢
     have Er5 := mk0 hE
     clear hE
     have n0_ := mk0 hi
     have n1_ := mk0 hb
     have n2_ := mk0 (KeepBut.trans (by (repeat (first | (with_reducible first | exact HK.out | apply keep_drewN | apply keep_drew | apply keep_alloc | refine keep_far ?_ LW1.out _ | refine keep_far ?_ LW2.out _) | exact HK.out))) hk (Or.inl rfl))
     clear HI HB HK
     have HI := n0_
     have HB := n1_
     have HK := n2_
     clear n0_ n1_ n2_ hi hb
     have u1_ := mk0 (show w5.heap[w.heap.size]? = some (.cells zPr 168 (0, 0)) from (hk.2 _ (by have := blk_lt BX1.out; exact this) (by have := NG1.out; omega) (by simp)).trans BX1.out)
     have u2_ := mk0 (show w5.heap[w1.heap.size]? = some (.cells #[.string ⟨r1.1.toArray⟩, .int .i64 0, .int .i64 0, .int .i64 0, .string ⟨#[]⟩] 168 (0, 0)) from (hk.2 _ (by have := blk_lt BX2.out; exact this) (by have := NG2.out; omega) (by simp)).trans BX2.out)
     clear BX1 BX2 hk
     have BX1 := u1_
     have BX2 := u2_
     clear u1_ u2_
     have hx20 := blk_cell BX2.out 0
     have hx21 := blk_cell BX2.out 1
     have hx22 := blk_cell BX2.out 2
     have hx23 := blk_cell BX2.out 3
     have hx24 := blk_cell BX2.out 4
     have hy20 := blk_frozen BX2.out 0
     have hy21 := blk_frozen BX2.out 1
     have hy22 := blk_frozen BX2.out 2
     have hy23 := blk_frozen BX2.out 3
     have hy24 := blk_frozen BX2.out 4
     go_wp2_with fail
     clear hx20 hx21 hx22 hx23 hx24 hy20 hy21 hy22 hy23 hy24
     have u2_ := mk0 (show ((w5.setCell ⟨w1.heap.size, 1, none⟩ (.int .i64 1)).setCell ⟨w1.heap.size, 2, none⟩ (.int .i64 r5.1)).heap[w1.heap.size]? = some (.cells #[.string ⟨r1.1.toArray⟩, .int .i64 1, .int .i64 r5.1, .int .i64 0, .string ⟨#[]⟩] 168 (0, 0)) by simpa using blk_set (blk_set BX2.out 1 (.int .i64 1)) 2 (.int .i64 r5.1))
     have u1_ := mk0 (show ((w5.setCell ⟨w1.heap.size, 1, none⟩ (.int .i64 1)).setCell ⟨w1.heap.size, 2, none⟩ (.int .i64 r5.1)).heap[w.heap.size]? = some (.cells zPr 168 (0, 0)) from blk_far (blk_far BX1.out (p := ⟨w1.heap.size, 1, none⟩) (by have := HS1.out; show w.heap.size ≠ w1.heap.size; omega) _) (p := ⟨w1.heap.size, 2, none⟩) (by have := HS1.out; show w.heap.size ≠ w1.heap.size; omega) _)
     clear BX1 BX2
     have BX1 := u1_
     have BX2 := u2_
     clear u1_ u2_
     go_wp2_with fail
     (with_reducible refine (mark_P (w0 := w0) (st := r5.2) ⟨#[46, 46]⟩ (by decide) hs ?side1 ?side2).mono ?_)
     case side1 => (repeat (first | (with_reducible first | exact HI.out | apply IsP.alloc | apply IsP.drewN | apply IsP.drew | refine IsP.far ?_ NG1.out | refine IsP.far ?_ NG2.out) | exact HI.out))
     case side2 => (repeat (first | (with_reducible first | exact HB.out | apply below_alloc | apply pw_below_drewN | apply below_drew1 | refine below_set ?_ LB1.out | refine below_set ?_ LB2.out) | exact HB.out))
     rintro e w6 ⟨rfl, hi, hb, hk⟩
     generalize hE : markS (bytes ⟨#[46, 46]⟩) r5.2 = s6 at hi ⊢
     have Es6 := mk0 hE
     clear hE
     have n0_ := mk0 hi
     have n1_ := mk0 hb
     have n2_ := mk0 (KeepBut.trans (by (repeat (first | (with_reducible first | exact HK.out | apply keep_drewN | apply keep_drew | apply keep_alloc | refine keep_far ?_ LW1.out _ | refine keep_far ?_ LW2.out _) | exact HK.out))) hk (Or.inl rfl))
     clear HI HB HK
     have HI := n0_
     have HB := n1_
     have HK := n2_
     clear n0_ n1_ n2_ hi hb
     have u1_ := mk0 (show w6.heap[w.heap.size]? = some (.cells zPr 168 (0, 0)) from (hk.2 _ (by have := blk_lt BX1.out; exact this) (by have := NG1.out; omega) (by simp)).trans BX1.out)
     have u2_ := mk0 (show w6.heap[w1.heap.size]? = some (.cells #[.string ⟨r1.1.toArray⟩, .int .i64 1, .int .i64 r5.1, .int .i64 0, .string ⟨#[]⟩] 168 (0, 0)) from (hk.2 _ (by have := blk_lt BX2.out; exact this) (by have := NG2.out; omega) (by simp)).trans BX2.out)
     clear BX1 BX2 hk
     have BX1 := u1_
     have BX2 := u2_
     clear u1_ u2_
     go_wp2_with fail
     (with_reducible refine (number_P (w0 := w0) (st := s6) hs ?side1 ?side2).mono ?_)
     case side1 => (repeat (first | (with_reducible first | exact HI.out | apply IsP.alloc | apply IsP.drewN | apply IsP.drew | refine IsP.far ?_ NG1.out | refine IsP.far ?_ NG2.out) | exact HI.out))
     case side2 => (repeat (first | (with_reducible first | exact HB.out | apply below_alloc | apply pw_below_drewN | apply below_drew1 | refine below_set ?_ LB1.out | refine below_set ?_ LB2.out) | exact HB.out))
     rintro e w7 ⟨rfl, hi, hb, hk⟩
     generalize hE : numberS s6 = r7 at hi ⊢
     have Er7 := mk0 hE
     clear hE
     have n0_ := mk0 hi
     have n1_ := mk0 hb
     have n2_ := mk0 (KeepBut.trans (by (repeat (first | (with_reducible first | exact HK.out | apply keep_drewN | apply keep_drew | apply keep_alloc | refine keep_far ?_ LW1.out _ | refine keep_far ?_ LW2.out _) | exact HK.out))) hk (Or.inl rfl))
     clear HI HB HK
     have HI := n0_
     have HB := n1_
     have HK := n2_
     clear n0_ n1_ n2_ hi hb
     have u1_ := mk0 (show w7.heap[w.heap.size]? = some (.cells zPr 168 (0, 0)) from (hk.2 _ (by have := blk_lt BX1.out; exact this) (by have := NG1.out; omega) (by simp)).trans BX1.out)
     have u2_ := mk0 (show w7.heap[w1.heap.size]? = some (.cells #[.string ⟨r1.1.toArray⟩, .int .i64 1, .int .i64 r5.1, .int .i64 0, .string ⟨#[]⟩] 168 (0, 0)) from (hk.2 _ (by have := blk_lt BX2.out; exact this) (by have := NG2.out; omega) (by simp)).trans BX2.out)
     clear BX1 BX2 hk
     have BX1 := u1_
     have BX2 := u2_
     clear u1_ u2_
     have hx20 := blk_cell BX2.out 0
     have hx21 := blk_cell BX2.out 1
     have hx22 := blk_cell BX2.out 2
     have hx23 := blk_cell BX2.out 3
     have hx24 := blk_cell BX2.out 4
     have hy20 := blk_frozen BX2.out 0
     have hy21 := blk_frozen BX2.out 1
     have hy22 := blk_frozen BX2.out 2
     have hy23 := blk_frozen BX2.out 3
     have hy24 := blk_frozen BX2.out 4
     have hx10 := (blk_cell BX1.out 0).trans (show zPr[0]? = some (.string ⟨#[]⟩) from rfl)
     have hx11 := (blk_cell BX1.out 1).trans (show zPr[1]? = some (.int .i64 0) from rfl)
     have hx12 := (blk_cell BX1.out 2).trans (show zPr[2]? = some (.int .i64 0) from rfl)
     have hx13 := (blk_cell BX1.out 3).trans (show zPr[3]? = some (.int .i64 0) from rfl)
     have hx14 := (blk_cell BX1.out 4).trans (show zPr[4]? = some (.string ⟨#[]⟩) from rfl)
     have hy10 := blk_frozen BX1.out 0
     have hy11 := blk_frozen BX1.out 1
     have hy12 := blk_frozen BX1.out 2
     have hy13 := blk_frozen BX1.out 3
     have hy14 := blk_frozen BX1.out 4
     have hne1 : ¬ (w.heap.size = w1.heap.size) := by have := HS1.out; omega
     have hne2 : ¬ (w1.heap.size = w.heap.size) := by have := HS1.out; omega
     go_wp2
     refine bodyPost_ret (v := prV ⟨r1.1, 1, r5.1, r7.1, []⟩) ?_ rfl ?_
     ·
      simp [results, Tryz.results143, go_sem, prV, hne1, hne2, hx10, hx11, hx12, hx13, hx14]
     ·
      (rw [show predS st = (⟨r1.1, 1, r5.1, r7.1, []⟩, r7.2) from by unfold predS; simp only [Er1.out, Es2.out]; rw [if_neg (by rw [HL2.out]; simpa using H61.out), if_neg (by rw [HL2.out]; simpa using H94.out)]; unfold inS; simp only [Er3.out, ES4.out, Er5.out]; rw [show markS [46, 46] r5.2 = s6 from Es6.out, Er7.out]]; exact ⟨rfl, by (repeat (first | (with_reducible first | exact HI.out | apply IsP.alloc | apply IsP.drewN | apply IsP.drew | refine IsP.far ?_ NG1.out | refine IsP.far ?_ NG2.out) | exact HI.out)), by (repeat (first | (with_reducible first | exact HB.out | apply below_alloc | apply pw_below_drewN | apply below_drew1 | refine below_set ?_ LB1.out | refine below_set ?_ LB2.out) | exact HB.out)), by (repeat (first | (with_reducible first | exact HK.out | apply keep_drewN | apply keep_drew | apply keep_alloc | refine keep_far ?_ LW1.out _ | refine keep_far ?_ LW2.out _) | exact HK.out))⟩)
    ·
     have t1 : (r3.1 == ([105, 110] : List UInt8)) = false := by simpa using hin
     have HIN := mk0 (show ¬ r3.1 = [105, 110] from hin)
     clear hin
     go_wp2_with fail
     rw [show (q : Int) = ((s.size - s2.l.length : Nat) : Int) by rw [EQ.out]]
     go_wp2_with fail
     (with_reducible refine (stop_P (w0 := w0) (st := r3.2) s2.l.length (P_le HOK.out) ?side1 ?side2).mono ?_)
     case side1 => (repeat (first | (with_reducible first | exact HI.out | apply IsP.alloc | apply IsP.drewN | apply IsP.drew | refine IsP.far ?_ NG1.out | refine IsP.far ?_ NG2.out) | exact HI.out))
     case side2 => (repeat (first | (with_reducible first | exact HB.out | apply below_alloc | apply pw_below_drewN | apply below_drew1 | refine below_set ?_ LB1.out | refine below_set ?_ LB2.out) | exact HB.out))
     rintro e w4 ⟨rfl, hi, hb, hk⟩
     generalize hE : stopS r3.2 s2.l.length = s4 at hi ⊢
     have Es4 := mk0 hE
     clear hE
     have n0_ := mk0 hi
     have n1_ := mk0 hb
     have n2_ := mk0 (KeepBut.trans (by (repeat (first | (with_reducible first | exact HK.out | apply keep_drewN | apply keep_drew | apply keep_alloc | refine keep_far ?_ LW1.out _ | refine keep_far ?_ LW2.out _) | exact HK.out))) hk (Or.inl rfl))
     clear HI HB HK
     have HI := n0_
     have HB := n1_
     have HK := n2_
     clear n0_ n1_ n2_ hi hb
     have u1_ := mk0 (show w4.heap[w.heap.size]? = some (.cells zPr 168 (0, 0)) from (hk.2 _ (by have := blk_lt BX1.out; exact this) (by have := NG1.out; omega) (by simp)).trans BX1.out)
     have u2_ := mk0 (show w4.heap[w1.heap.size]? = some (.cells #[.string ⟨r1.1.toArray⟩, .int .i64 0, .int .i64 0, .int .i64 0, .string ⟨#[]⟩] 168 (0, 0)) from (hk.2 _ (by have := blk_lt BX2.out; exact this) (by have := NG2.out; omega) (by simp)).trans BX2.out)
     clear BX1 BX2 hk
     have BX1 := u1_
     have BX2 := u2_
     clear u1_ u2_
     have ES4 := mk0 (show (if r3.1 = [105, 110] then r3.2 else stopS r3.2 s2.l.length) = s4 by rw [if_neg HIN.out]; exact Es4.out)
     go_wp2_with fail
     go_wp2_with fail
     (with_reducible refine (number_P (w0 := w0) (st := s4) hs ?side1 ?side2).mono ?_)
     case side1 => (repeat (first | (with_reducible first | exact HI.out | apply IsP.alloc | apply IsP.drewN | apply IsP.drew | refine IsP.far ?_ NG1.out | refine IsP.far ?_ NG2.out) | exact HI.out))
     case side2 => (repeat (first | (with_reducible first | exact HB.out | apply below_alloc | apply pw_below_drewN | apply below_drew1 | refine below_set ?_ LB1.out | refine below_set ?_ LB2.out) | exact HB.out))
     rintro e w5 ⟨rfl, hi, hb, hk⟩
     generalize hE : numberS s4 = r5 at hi ⊢
     have Er5 := mk0 hE
     clear hE
     have n0_ := mk0 hi
     have n1_ := mk0 hb
     have n2_ := mk0 (KeepBut.trans (by (repeat (first | (with_reducible first | exact HK.out | apply keep_drewN | apply keep_drew | apply keep_alloc | refine keep_far ?_ LW1.out _ | refine keep_far ?_ LW2.out _) | exact HK.out))) hk (Or.inl rfl))
     clear HI HB HK
     have HI := n0_
     have HB := n1_
     have HK := n2_
     clear n0_ n1_ n2_ hi hb
     have u1_ := mk0 (show w5.heap[w.heap.size]? = some (.cells zPr 168 (0, 0)) from (hk.2 _ (by have := blk_lt BX1.out; exact this) (by have := NG1.out; omega) (by simp)).trans BX1.out)
     have u2_ := mk0 (show w5.heap[w1.heap.size]? = some (.cells #[.string ⟨r1.1.toArray⟩, .int .i64 0, .int .i64 0, .int .i64 0, .string ⟨#[]⟩] 168 (0, 0)) from (hk.2 _ (by have := blk_lt BX2.out; exact this) (by have := NG2.out; omega) (by simp)).trans BX2.out)
     clear BX1 BX2 hk
     have BX1 := u1_
     have BX2 := u2_
     clear u1_ u2_
     have hx20 := blk_cell BX2.out 0
     have hx21 := blk_cell BX2.out 1
     have hx22 := blk_cell BX2.out 2
     have hx23 := blk_cell BX2.out 3
     have hx24 := blk_cell BX2.out 4
     have hy20 := blk_frozen BX2.out 0
     have hy21 := blk_frozen BX2.out 1
     have hy22 := blk_frozen BX2.out 2
     have hy23 := blk_frozen BX2.out 3
     have hy24 := blk_frozen BX2.out 4
     go_wp2_with fail
     clear hx20 hx21 hx22 hx23 hx24 hy20 hy21 hy22 hy23 hy24
     have u2_ := mk0 (show ((w5.setCell ⟨w1.heap.size, 1, none⟩ (.int .i64 1)).setCell ⟨w1.heap.size, 2, none⟩ (.int .i64 r5.1)).heap[w1.heap.size]? = some (.cells #[.string ⟨r1.1.toArray⟩, .int .i64 1, .int .i64 r5.1, .int .i64 0, .string ⟨#[]⟩] 168 (0, 0)) by simpa using blk_set (blk_set BX2.out 1 (.int .i64 1)) 2 (.int .i64 r5.1))
     have u1_ := mk0 (show ((w5.setCell ⟨w1.heap.size, 1, none⟩ (.int .i64 1)).setCell ⟨w1.heap.size, 2, none⟩ (.int .i64 r5.1)).heap[w.heap.size]? = some (.cells zPr 168 (0, 0)) from blk_far (blk_far BX1.out (p := ⟨w1.heap.size, 1, none⟩) (by have := HS1.out; show w.heap.size ≠ w1.heap.size; omega) _) (p := ⟨w1.heap.size, 2, none⟩) (by have := HS1.out; show w.heap.size ≠ w1.heap.size; omega) _)
     clear BX1 BX2
     have BX1 := u1_
     have BX2 := u2_
     clear u1_ u2_
     go_wp2_with fail
     (with_reducible refine (mark_P (w0 := w0) (st := r5.2) ⟨#[46, 46]⟩ (by decide) hs ?side1 ?side2).mono ?_)
     case side1 => (repeat (first | (with_reducible first | exact HI.out | apply IsP.alloc | apply IsP.drewN | apply IsP.drew | refine IsP.far ?_ NG1.out | refine IsP.far ?_ NG2.out) | exact HI.out))
     case side2 => (repeat (first | (with_reducible first | exact HB.out | apply below_alloc | apply pw_below_drewN | apply below_drew1 | refine below_set ?_ LB1.out | refine below_set ?_ LB2.out) | exact HB.out))
     rintro e w6 ⟨rfl, hi, hb, hk⟩
     generalize hE : markS (bytes ⟨#[46, 46]⟩) r5.2 = s6 at hi ⊢
     have Es6 := mk0 hE
     clear hE
     have n0_ := mk0 hi
     have n1_ := mk0 hb
     have n2_ := mk0 (KeepBut.trans (by (repeat (first | (with_reducible first | exact HK.out | apply keep_drewN | apply keep_drew | apply keep_alloc | refine keep_far ?_ LW1.out _ | refine keep_far ?_ LW2.out _) | exact HK.out))) hk (Or.inl rfl))
     clear HI HB HK
     have HI := n0_
     have HB := n1_
     have HK := n2_
     clear n0_ n1_ n2_ hi hb
     have u1_ := mk0 (show w6.heap[w.heap.size]? = some (.cells zPr 168 (0, 0)) from (hk.2 _ (by have := blk_lt BX1.out; exact this) (by have := NG1.out; omega) (by simp)).trans BX1.out)
     have u2_ := mk0 (show w6.heap[w1.heap.size]? = some (.cells #[.string ⟨r1.1.toArray⟩, .int .i64 1, .int .i64 r5.1, .int .i64 0, .string ⟨#[]⟩] 168 (0, 0)) from (hk.2 _ (by have := blk_lt BX2.out; exact this) (by have := NG2.out; omega) (by simp)).trans BX2.out)
     clear BX1 BX2 hk
     have BX1 := u1_
     have BX2 := u2_
     clear u1_ u2_
     go_wp2_with fail
     (with_reducible refine (number_P (w0 := w0) (st := s6) hs ?side1 ?side2).mono ?_)
     case side1 => (repeat (first | (with_reducible first | exact HI.out | apply IsP.alloc | apply IsP.drewN | apply IsP.drew | refine IsP.far ?_ NG1.out | refine IsP.far ?_ NG2.out) | exact HI.out))
     case side2 => (repeat (first | (with_reducible first | exact HB.out | apply below_alloc | apply pw_below_drewN | apply below_drew1 | refine below_set ?_ LB1.out | refine below_set ?_ LB2.out) | exact HB.out))
     rintro e w7 ⟨rfl, hi, hb, hk⟩
     generalize hE : numberS s6 = r7 at hi ⊢
     have Er7 := mk0 hE
     clear hE
     have n0_ := mk0 hi
     have n1_ := mk0 hb
     have n2_ := mk0 (KeepBut.trans (by (repeat (first | (with_reducible first | exact HK.out | apply keep_drewN | apply keep_drew | apply keep_alloc | refine keep_far ?_ LW1.out _ | refine keep_far ?_ LW2.out _) | exact HK.out))) hk (Or.inl rfl))
     clear HI HB HK
     have HI := n0_
     have HB := n1_
     have HK := n2_
     clear n0_ n1_ n2_ hi hb
     have u1_ := mk0 (show w7.heap[w.heap.size]? = some (.cells zPr 168 (0, 0)) from (hk.2 _ (by have := blk_lt BX1.out; exact this) (by have := NG1.out; omega) (by simp)).trans BX1.out)
     have u2_ := mk0 (show w7.heap[w1.heap.size]? = some (.cells #[.string ⟨r1.1.toArray⟩, .int .i64 1, .int .i64 r5.1, .int .i64 0, .string ⟨#[]⟩] 168 (0, 0)) from (hk.2 _ (by have := blk_lt BX2.out; exact this) (by have := NG2.out; omega) (by simp)).trans BX2.out)
     clear BX1 BX2 hk
     have BX1 := u1_
     have BX2 := u2_
     clear u1_ u2_
     have hx20 := blk_cell BX2.out 0
     have hx21 := blk_cell BX2.out 1
     have hx22 := blk_cell BX2.out 2
     have hx23 := blk_cell BX2.out 3
     have hx24 := blk_cell BX2.out 4
     have hy20 := blk_frozen BX2.out 0
     have hy21 := blk_frozen BX2.out 1
     have hy22 := blk_frozen BX2.out 2
     have hy23 := blk_frozen BX2.out 3
     have hy24 := blk_frozen BX2.out 4
     have hx10 := (blk_cell BX1.out 0).trans (show zPr[0]? = some (.string ⟨#[]⟩) from rfl)
     have hx11 := (blk_cell BX1.out 1).trans (show zPr[1]? = some (.int .i64 0) from rfl)
     have hx12 := (blk_cell BX1.out 2).trans (show zPr[2]? = some (.int .i64 0) from rfl)
     have hx13 := (blk_cell BX1.out 3).trans (show zPr[3]? = some (.int .i64 0) from rfl)
     have hx14 := (blk_cell BX1.out 4).trans (show zPr[4]? = some (.string ⟨#[]⟩) from rfl)
     have hy10 := blk_frozen BX1.out 0
     have hy11 := blk_frozen BX1.out 1
     have hy12 := blk_frozen BX1.out 2
     have hy13 := blk_frozen BX1.out 3
     have hy14 := blk_frozen BX1.out 4
     have hne1 : ¬ (w.heap.size = w1.heap.size) := by have := HS1.out; omega
     have hne2 : ¬ (w1.heap.size = w.heap.size) := by have := HS1.out; omega
     go_wp2
     refine bodyPost_ret (v := prV ⟨r1.1, 1, r5.1, r7.1, []⟩) ?_ rfl ?_
     ·
      simp [results, Tryz.results143, go_sem, prV, hne1, hne2, hx10, hx11, hx12, hx13, hx14]
     ·
      (rw [show predS st = (⟨r1.1, 1, r5.1, r7.1, []⟩, r7.2) from by unfold predS; simp only [Er1.out, Es2.out]; rw [if_neg (by rw [HL2.out]; simpa using H61.out), if_neg (by rw [HL2.out]; simpa using H94.out)]; unfold inS; simp only [Er3.out, ES4.out, Er5.out]; rw [show markS [46, 46] r5.2 = s6 from Es6.out, Er7.out]]; exact ⟨rfl, by (repeat (first | (with_reducible first | exact HI.out | apply IsP.alloc | apply IsP.drewN | apply IsP.drew | refine IsP.far ?_ NG1.out | refine IsP.far ?_ NG2.out) | exact HI.out)), by (repeat (first | (with_reducible first | exact HB.out | apply below_alloc | apply pw_below_drewN | apply below_drew1 | refine below_set ?_ LB1.out | refine below_set ?_ LB2.out) | exact HB.out)), by (repeat (first | (with_reducible first | exact HK.out | apply keep_drewN | apply keep_drew | apply keep_alloc | refine keep_far ?_ LW1.out _ | refine keep_far ?_ LW2.out _) | exact HK.out))⟩)
end
end Go.Proofs.YtnmpijbcajclgaaGreatDoor.Mine
end
section
namespace Go.Proofs.YtnmpijbcajclgaaGreatDoor.Mine
theorem predS_le {st : St} (h : st.bad = none) : (predS st).2.l.length ≤ st.l.length := (predS_ok (w := st.l) ⟨List.suffix_refl _, fun n hn => by rw [h] at hn; cases hn⟩).1.length_le
theorem blanksS_le (st : St) : (blanksS st).l.length ≤ st.l.length := by
 unfold blanksS
 split
 ·
  exact Nat.le_refl _
 ·
  exact (skip_suf _).length_le
theorem wordL_lt {l : List UInt8} (h : (wordL l).2.bad = none) : (wordL l).2.l.length < l.length := by
 match l with
 | [] => simp [wordL] at h
 | c :: r =>
  by_cases hc : isL c = true
  ·
   have := (dropWhile_suf isA r).length_le
   simp only [wordL, if_pos hc, List.length_cons]
   omega
  ·
   simp [wordL, hc] at h
theorem wordS_lt {st : St} (h0 : st.bad = none) (h : (wordS st).2.bad = none) : (wordS st).2.l.length < st.l.length := by
 obtain ⟨l, b⟩ := st
 cases h0
 have h1 := wordL_lt (l := skip l) h
 have h2 := (skip_suf l).length_le
 show (wordL (skip l)).2.l.length < l.length
 omega
def andS (b : St) : St := if (wordS b).1 = [97, 110, 100] then (wordS b).2 else stopS (wordS b).2 b.l.length
theorem stopS_none {st : St} {n : Nat} (h : (stopS st n).bad = none) : False := by
 unfold stopS at h
 split at h
 ·
  rename_i hb
  rw [hb] at h
  cases h
 ·
  simp at h
theorem andS_lt {st : St} (h0 : st.bad = none) (h : (andS st).bad = none) : (andS st).l.length < st.l.length := by
 unfold andS at h ⊢
 split
 ·
  rename_i hw
  rw [if_pos hw] at h
  exact wordS_lt h0 h
 ·
  rename_i hw
  rw [if_neg hw] at h
  exact (stopS_none h).elim
theorem parseS_succ (k : Nat) (st : St) (acc : List Pr) : parseS (k + 1) st acc =
 match (blanksS (predS st).2).bad with
 | some n => .inr n
 | none => if (blanksS (predS st).2).l = [] then .inl (acc ++ [(predS st).1]) else
  match (andS (blanksS (predS st).2)).bad with
  | some n => .inr n
  | none => parseS k (andS (blanksS (predS st).2)) (acc ++ [(predS st).1]) := rfl
end Go.Proofs.YtnmpijbcajclgaaGreatDoor.Mine
end
