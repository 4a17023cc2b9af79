/-
  Texts of this claim, one behind the other: what each one proves, and its conditions, stand at its head.
-/
import Derived.Test.YthaapijjjgkacaaDoorMR3
set_option linter.unusedSimpArgs false
set_option linter.unusedVariables false
section
/-
  The contract of the filter parser's pred, in terms of Plain. Conditions: the parser's block, the text at most 1000 bytes.
-/
namespace Go.Proofs.YthaapijjjgkacaaDoor.Mine
open Go.RowKit Go.Proofs.YthaapijjjgkacaaDoorW.PrintWords Go.Proofs.YthaapijjjgkacaaDoorW.PrintLast Go.Proofs.YthaapijjjgkacaaDoorW.PrintMore
open Go.Proofs.YthaapijjjgkacaaDoor.PFilterReads

section
variable {g : Nat} {s : ByteArray} {w0 w : World} {st : St}
theorem IsP.alloc (h : IsP w0 w g s st) (o : Obj) : IsP w0 (w.alloc o) g s st := ⟨h.1, h.2.alloc o⟩
theorem IsP.drewN (h : IsP w0 w g s st) (n : Nat) : IsP w0 (w.drewN n) g s st := h
theorem IsP.drew (h : IsP w0 w g s st) : IsP w0 w.drew g s st := h
theorem IsP.far {b j : Nat} {v : Value} (h : IsP w0 w g s st) (hn : g ≠ b) : IsP w0 (w.setCell ⟨b, j, none⟩ v) g s st := ⟨h.1, h.2.far (p := ⟨b, j, none⟩) hn v⟩
theorem keep_far' {u : World} {b j : Nat} {v : Value} (h : KeepBut u w g none) (hb : u.heap.size ≤ b) : KeepBut u (w.setCell ⟨b, j, none⟩ v) g none := keep_far h (p := ⟨b, j, none⟩) hb v
theorem blk_keep {w1 : World} {b : Nat} {o : Obj} (h : w.heap[b]? = some o) (hk : KeepBut w w1 g none) (hn : b ≠ g) : w1.heap[b]? = some o := (hk.2 b (blk_lt h) hn (by simp)).trans h

def prV (x : Pr) : Value := .agg #[.string ⟨x.name.toArray⟩, .int .i64 x.op, .int .i64 x.lo, .int .i64 x.hi, .string ⟨x.str.toArray⟩]
def zPr : Array Value := #[.string ⟨#[]⟩, .int .i64 0, .int .i64 0, .int .i64 0, .string ⟨#[]⟩]

set_option maxHeartbeats 4000000 in
set_option maxRecDepth 100000 in
theorem pred_P (hs : s.size ≤ 1000) (hI : IsP w0 w g s st) (hB : Below w0.heap.size w0 w) :
    Calls Tryd.prog 33 #[.pointer (some ⟨g, 0, none⟩)] w (PostP w0 w g s (prV (predS st).1) (predS st).2) := by
  have HI := Aside0.mk hI
  have HB := Aside0.mk hB
  have HK := Aside0.mk (KeepBut.refl w g none)
  have HL := Aside0.mk hB.size
  have HG := Aside0.mk (show g < w.heap.size from hI.2.lt)
  clear hI hB
  go_enter Tryd.func33, Tryd.ntmps33
  go_wp2_with fail
  (with_reducible refine (word_P (w0 := w0) (st := st) hs ?side1 ?side2).mono ?_)
  case side1 => (repeat (first | (with_reducible first | exact HI.out | apply IsP.alloc | apply IsP.drewN | apply IsP.drew | refine IsP.far ?_ NG1.out | refine IsP.far ?_ NG2.out) | exact HI.out))
  case side2 => (repeat (first | (with_reducible first | exact HB.out | apply below_alloc | apply pw_below_drewN | apply below_drew1 | refine below_set ?_ LB1.out | refine below_set ?_ LB2.out) | exact HB.out))
  rintro e w1 ⟨rfl, hi, hb, hk⟩
  generalize hE : wordS st = r1 at hi ⊢
  have Er1 := Aside0.mk hE
  clear hE
  have n0_ := Aside0.mk hi
  have n1_ := Aside0.mk hb
  have n2_ := Aside0.mk (KeepBut.trans (by (repeat (first | (with_reducible first | exact HK.out | apply keep_drewN | apply keep_drew | apply keep_alloc | refine keep_far ?_ LW1.out _ | refine keep_far ?_ LW2.out _) | exact HK.out))) hk (Or.inl rfl))
  clear HI HB HK
  have HI := n0_
  have HB := n1_
  have HK := n2_
  clear n0_ n1_ n2_ hi hb
  have hb1 : w1.heap[w.heap.size]? = some (.cells zPr 46 (0, 0)) := blk_keep (by exact heap_alloc_new w _) hk (by have := HG.out; omega)
  have BX1 := Aside0.mk hb1
  have NG1 := Aside0.mk (show g ≠ w.heap.size by have := HG.out; omega)
  have LW1 := Aside0.mk (Nat.le_refl w.heap.size)
  have LB1 := Aside0.mk (show w0.heap.size ≤ w.heap.size from HL.out)
  have HS1 := Aside0.mk (blk_lt hb1)
  clear hk hb1
  have HG1 := Aside0.mk (show g < w1.heap.size by have := HS1.out; have := HG.out; omega)
  have NG2 := Aside0.mk (show g ≠ w1.heap.size by have := HG1.out; omega)
  have LW2 := Aside0.mk (show w.heap.size ≤ w1.heap.size by have := HS1.out; omega)
  have LB2 := Aside0.mk (show w0.heap.size ≤ w1.heap.size by have := HS1.out; have := LB1.out; omega)
  go_wp2_with fail
  (with_reducible refine (blanks_P (w0 := w0) (st := r1.2) hs ?side1 ?side2).mono ?_)
  case side1 => (repeat (first | (with_reducible first | exact HI.out | apply IsP.alloc | apply IsP.drewN | apply IsP.drew | refine IsP.far ?_ NG1.out | refine IsP.far ?_ NG2.out) | exact HI.out))
  case side2 => (repeat (first | (with_reducible first | exact HB.out | apply below_alloc | apply pw_below_drewN | apply below_drew1 | refine below_set ?_ LB1.out | refine below_set ?_ LB2.out) | exact HB.out))
  rintro e w2 ⟨rfl, hi, hb, hk⟩
  generalize hE : blanksS r1.2 = s2 at hi ⊢
  have Es2 := Aside0.mk hE
  clear hE
  have n0_ := Aside0.mk hi
  have n1_ := Aside0.mk hb
  have n2_ := Aside0.mk (KeepBut.trans (by (repeat (first | (with_reducible first | exact HK.out | apply keep_drewN | apply keep_drew | apply keep_alloc | refine keep_far ?_ LW1.out _ | refine keep_far ?_ LW2.out _) | exact HK.out))) hk (Or.inl rfl))
  clear HI HB HK
  have HI := n0_
  have HB := n1_
  have HK := n2_
  clear n0_ n1_ n2_ hi hb
  have hb2 : w2.heap[w1.heap.size]? = some (.cells #[.string ⟨r1.1.toArray⟩, .int .i64 0, .int .i64 0, .int .i64 0, .string ⟨#[]⟩] 46 (0, 0)) := blk_keep (by exact heap_alloc_new w1 _) hk (by have := HG1.out; omega)
  have hb1 : w2.heap[w.heap.size]? = some (.cells zPr 46 (0, 0)) := blk_keep (by rw [Below.heap_alloc _ _ _ HS1.out]; exact BX1.out) hk (by have := HG.out; omega)
  have BX2 := Aside0.mk hb2
  clear BX1 hk
  have BX1 := Aside0.mk hb1
  clear hb1 hb2
  obtain ⟨hok, HG, hg⟩ := HI.out
  have HOK := Aside0.mk hok
  have hc0 := cellS74_0 HG
  have hc1 := cellS74_1 HG
  have hc2 := cellS74_2 HG
  have hf0 := blk_frozen HG 0
  have hf1 := blk_frozen HG 1
  have hf2 := blk_frozen HG 2
  clear HG hg hok
  generalize hq : s.size - s2.l.length = q at hc1
  have EQ := Aside0.mk hq
  have hqd := P_drop HOK.out
  have hql := P_le HOK.out
  rw [hq] at hqd
  clear hq
  cases hl : s2.l with
  | nil =>
    have q1 := decide_eq_false (show ¬ ((q : Int) < (s.size : Int)) by rw [hl] at hqd; have h5 := dropB_len s q; rw [hqd] at h5; simp at h5; omega)
    have q2 := decide_eq_false (show ¬ q < s.size by have := of_decide_eq_false q1; omega)
    have HL2 := Aside0.mk hl
    clear hl hqd
    go_wp2_with fail
    repeat (go_quiet (fail); try go_wp2_with fail)
    go_wp2_with fail
    (with_reducible refine (word_P (w0 := w0) (st := s2) hs ?side1 ?side2).mono ?_)
    case side1 => (repeat (first | (with_reducible first | exact HI.out | apply IsP.alloc | apply IsP.drewN | apply IsP.drew | refine IsP.far ?_ NG1.out | refine IsP.far ?_ NG2.out) | exact HI.out))
    case side2 => (repeat (first | (with_reducible first | exact HB.out | apply below_alloc | apply pw_below_drewN | apply below_drew1 | refine below_set ?_ LB1.out | refine below_set ?_ LB2.out) | exact HB.out))
    rintro e w3 ⟨rfl, hi, hb, hk⟩
    generalize hE : wordS s2 = r3 at hi ⊢
    have Er3 := Aside0.mk hE
    clear hE
    have n0_ := Aside0.mk hi
    have n1_ := Aside0.mk hb
    have n2_ := Aside0.mk (KeepBut.trans (by (repeat (first | (with_reducible first | exact HK.out | apply keep_drewN | apply keep_drew | apply keep_alloc | refine keep_far ?_ LW1.out _ | refine keep_far ?_ LW2.out _) | exact HK.out))) hk (Or.inl rfl))
    clear HI HB HK
    have HI := n0_
    have HB := n1_
    have HK := n2_
    clear n0_ n1_ n2_ hi hb
    -- the two blocks of the call's own, behind a call
    have u1_ := Aside0.mk (show w3.heap[w.heap.size]? = some (.cells zPr 46 (0, 0)) from (hk.2 _ (by have := blk_lt BX1.out; exact this) (by have := NG1.out; omega) (by simp)).trans BX1.out)
    have u2_ := Aside0.mk (show w3.heap[w1.heap.size]? = some (.cells #[.string ⟨r1.1.toArray⟩, .int .i64 0, .int .i64 0, .int .i64 0, .string ⟨#[]⟩] 46 (0, 0)) from (hk.2 _ (by have := blk_lt BX2.out; exact this) (by have := NG2.out; omega) (by simp)).trans BX2.out)
    clear BX1 BX2 hk
    have BX1 := u1_
    have BX2 := u2_
    clear u1_ u2_
    by_cases hin : r3.1 = [105, 110]
    · have t1 : (r3.1 == ([105, 110] : List UInt8)) = true := by simpa using hin
      have HIN := Aside0.mk (show r3.1 = [105, 110] from hin)
      clear hin
      obtain ⟨s4, hs4⟩ : ∃ s4, r3.2 = s4 := ⟨_, rfl⟩
      have ES4 := Aside0.mk (show (if r3.1 = [105, 110] then r3.2 else stopS r3.2 s2.l.length) = s4 by rw [if_pos HIN.out]; exact hs4)
      rw [hs4] at HI
      clear hs4
      go_wp2_with fail
      -- from 'in' on: two numbers
      go_wp2_with fail
      (with_reducible refine (number_P (w0 := w0) (st := s4) hs ?side1 ?side2).mono ?_)
      case side1 => (repeat (first | (with_reducible first | exact HI.out | apply IsP.alloc | apply IsP.drewN | apply IsP.drew | refine IsP.far ?_ NG1.out | refine IsP.far ?_ NG2.out) | exact HI.out))
      case side2 => (repeat (first | (with_reducible first | exact HB.out | apply below_alloc | apply pw_below_drewN | apply below_drew1 | refine below_set ?_ LB1.out | refine below_set ?_ LB2.out) | exact HB.out))
      rintro e w5 ⟨rfl, hi, hb, hk⟩
      generalize hE : numberS s4 = r5 at hi ⊢
      have Er5 := Aside0.mk hE
      clear hE
      have n0_ := Aside0.mk hi
      have n1_ := Aside0.mk hb
      have n2_ := Aside0.mk (KeepBut.trans (by (repeat (first | (with_reducible first | exact HK.out | apply keep_drewN | apply keep_drew | apply keep_alloc | refine keep_far ?_ LW1.out _ | refine keep_far ?_ LW2.out _) | exact HK.out))) hk (Or.inl rfl))
      clear HI HB HK
      have HI := n0_
      have HB := n1_
      have HK := n2_
      clear n0_ n1_ n2_ hi hb
      -- the two blocks of the call's own, behind a call
      have u1_ := Aside0.mk (show w5.heap[w.heap.size]? = some (.cells zPr 46 (0, 0)) from (hk.2 _ (by have := blk_lt BX1.out; exact this) (by have := NG1.out; omega) (by simp)).trans BX1.out)
      have u2_ := Aside0.mk (show w5.heap[w1.heap.size]? = some (.cells #[.string ⟨r1.1.toArray⟩, .int .i64 0, .int .i64 0, .int .i64 0, .string ⟨#[]⟩] 46 (0, 0)) from (hk.2 _ (by have := blk_lt BX2.out; exact this) (by have := NG2.out; omega) (by simp)).trans BX2.out)
      clear BX1 BX2 hk
      have BX1 := u1_
      have BX2 := u2_
      clear u1_ u2_
      have hx20 := blk_cell BX2.out 0
      have hx21 := blk_cell BX2.out 1
      have hx22 := blk_cell BX2.out 2
      have hx23 := blk_cell BX2.out 3
      have hx24 := blk_cell BX2.out 4
      have hy20 := blk_frozen BX2.out 0
      have hy21 := blk_frozen BX2.out 1
      have hy22 := blk_frozen BX2.out 2
      have hy23 := blk_frozen BX2.out 3
      have hy24 := blk_frozen BX2.out 4
      go_wp2_with fail
      clear hx20 hx21 hx22 hx23 hx24 hy20 hy21 hy22 hy23 hy24
      have u2_ := Aside0.mk (show ((w5.setCell ⟨w1.heap.size, 1, none⟩ (.int .i64 1)).setCell ⟨w1.heap.size, 2, none⟩ (.int .i64 r5.1)).heap[w1.heap.size]? = some (.cells #[.string ⟨r1.1.toArray⟩, .int .i64 1, .int .i64 r5.1, .int .i64 0, .string ⟨#[]⟩] 46 (0, 0)) by simpa using blk_set (blk_set BX2.out 1 (.int .i64 1)) 2 (.int .i64 r5.1))
      have u1_ := Aside0.mk (show ((w5.setCell ⟨w1.heap.size, 1, none⟩ (.int .i64 1)).setCell ⟨w1.heap.size, 2, none⟩ (.int .i64 r5.1)).heap[w.heap.size]? = some (.cells zPr 46 (0, 0)) from blk_far (blk_far BX1.out (p := ⟨w1.heap.size, 1, none⟩) (by have := HS1.out; show w.heap.size ≠ w1.heap.size; omega) _) (p := ⟨w1.heap.size, 2, none⟩) (by have := HS1.out; show w.heap.size ≠ w1.heap.size; omega) _)
      clear BX1 BX2
      have BX1 := u1_
      have BX2 := u2_
      clear u1_ u2_
      go_wp2_with fail
      (with_reducible refine (mark_P (w0 := w0) (st := r5.2) ⟨#[46, 46]⟩ (by decide) hs ?side1 ?side2).mono ?_)
      case side1 => (repeat (first | (with_reducible first | exact HI.out | apply IsP.alloc | apply IsP.drewN | apply IsP.drew | refine IsP.far ?_ NG1.out | refine IsP.far ?_ NG2.out) | exact HI.out))
      case side2 => (repeat (first | (with_reducible first | exact HB.out | apply below_alloc | apply pw_below_drewN | apply below_drew1 | refine below_set ?_ LB1.out | refine below_set ?_ LB2.out) | exact HB.out))
      rintro e w6 ⟨rfl, hi, hb, hk⟩
      generalize hE : markS (bytes ⟨#[46, 46]⟩) r5.2 = s6 at hi ⊢
      have Es6 := Aside0.mk hE
      clear hE
      have n0_ := Aside0.mk hi
      have n1_ := Aside0.mk hb
      have n2_ := Aside0.mk (KeepBut.trans (by (repeat (first | (with_reducible first | exact HK.out | apply keep_drewN | apply keep_drew | apply keep_alloc | refine keep_far ?_ LW1.out _ | refine keep_far ?_ LW2.out _) | exact HK.out))) hk (Or.inl rfl))
      clear HI HB HK
      have HI := n0_
      have HB := n1_
      have HK := n2_
      clear n0_ n1_ n2_ hi hb
      -- the two blocks of the call's own, behind a call
      have u1_ := Aside0.mk (show w6.heap[w.heap.size]? = some (.cells zPr 46 (0, 0)) from (hk.2 _ (by have := blk_lt BX1.out; exact this) (by have := NG1.out; omega) (by simp)).trans BX1.out)
      have u2_ := Aside0.mk (show w6.heap[w1.heap.size]? = some (.cells #[.string ⟨r1.1.toArray⟩, .int .i64 1, .int .i64 r5.1, .int .i64 0, .string ⟨#[]⟩] 46 (0, 0)) from (hk.2 _ (by have := blk_lt BX2.out; exact this) (by have := NG2.out; omega) (by simp)).trans BX2.out)
      clear BX1 BX2 hk
      have BX1 := u1_
      have BX2 := u2_
      clear u1_ u2_
      go_wp2_with fail
      (with_reducible refine (number_P (w0 := w0) (st := s6) hs ?side1 ?side2).mono ?_)
      case side1 => (repeat (first | (with_reducible first | exact HI.out | apply IsP.alloc | apply IsP.drewN | apply IsP.drew | refine IsP.far ?_ NG1.out | refine IsP.far ?_ NG2.out) | exact HI.out))
      case side2 => (repeat (first | (with_reducible first | exact HB.out | apply below_alloc | apply pw_below_drewN | apply below_drew1 | refine below_set ?_ LB1.out | refine below_set ?_ LB2.out) | exact HB.out))
      rintro e w7 ⟨rfl, hi, hb, hk⟩
      generalize hE : numberS s6 = r7 at hi ⊢
      have Er7 := Aside0.mk hE
      clear hE
      have n0_ := Aside0.mk hi
      have n1_ := Aside0.mk hb
      have n2_ := Aside0.mk (KeepBut.trans (by (repeat (first | (with_reducible first | exact HK.out | apply keep_drewN | apply keep_drew | apply keep_alloc | refine keep_far ?_ LW1.out _ | refine keep_far ?_ LW2.out _) | exact HK.out))) hk (Or.inl rfl))
      clear HI HB HK
      have HI := n0_
      have HB := n1_
      have HK := n2_
      clear n0_ n1_ n2_ hi hb
      -- the two blocks of the call's own, behind a call
      have u1_ := Aside0.mk (show w7.heap[w.heap.size]? = some (.cells zPr 46 (0, 0)) from (hk.2 _ (by have := blk_lt BX1.out; exact this) (by have := NG1.out; omega) (by simp)).trans BX1.out)
      have u2_ := Aside0.mk (show w7.heap[w1.heap.size]? = some (.cells #[.string ⟨r1.1.toArray⟩, .int .i64 1, .int .i64 r5.1, .int .i64 0, .string ⟨#[]⟩] 46 (0, 0)) from (hk.2 _ (by have := blk_lt BX2.out; exact this) (by have := NG2.out; omega) (by simp)).trans BX2.out)
      clear BX1 BX2 hk
      have BX1 := u1_
      have BX2 := u2_
      clear u1_ u2_
      have hx20 := blk_cell BX2.out 0
      have hx21 := blk_cell BX2.out 1
      have hx22 := blk_cell BX2.out 2
      have hx23 := blk_cell BX2.out 3
      have hx24 := blk_cell BX2.out 4
      have hy20 := blk_frozen BX2.out 0
      have hy21 := blk_frozen BX2.out 1
      have hy22 := blk_frozen BX2.out 2
      have hy23 := blk_frozen BX2.out 3
      have hy24 := blk_frozen BX2.out 4
      have hx10 := (blk_cell BX1.out 0).trans (show zPr[0]? = some (.string ⟨#[]⟩) from rfl)
      have hx11 := (blk_cell BX1.out 1).trans (show zPr[1]? = some (.int .i64 0) from rfl)
      have hx12 := (blk_cell BX1.out 2).trans (show zPr[2]? = some (.int .i64 0) from rfl)
      have hx13 := (blk_cell BX1.out 3).trans (show zPr[3]? = some (.int .i64 0) from rfl)
      have hx14 := (blk_cell BX1.out 4).trans (show zPr[4]? = some (.string ⟨#[]⟩) from rfl)
      have hy10 := blk_frozen BX1.out 0
      have hy11 := blk_frozen BX1.out 1
      have hy12 := blk_frozen BX1.out 2
      have hy13 := blk_frozen BX1.out 3
      have hy14 := blk_frozen BX1.out 4
      have hne1 : ¬ (w.heap.size = w1.heap.size) := by have := HS1.out; omega
      have hne2 : ¬ (w1.heap.size = w.heap.size) := by have := HS1.out; omega
      go_wp2
      refine bodyPost_ret (v := prV ⟨r1.1, 1, r5.1, r7.1, []⟩) ?_ rfl ?_
      · simp [results, Tryd.results33, go_sem, prV, hne1, hne2, hx10, hx11, hx12, hx13, hx14]
      · (rw [show predS st = (⟨r1.1, 1, r5.1, r7.1, []⟩, r7.2) from by unfold predS; simp only [Er1.out, Es2.out]; rw [if_neg (by simp [HL2.out]), if_neg (by simp [HL2.out])]; unfold inS; simp only [Er3.out, ES4.out, Er5.out]; rw [show markS [46, 46] r5.2 = s6 from Es6.out, Er7.out]]; exact ⟨rfl, by (repeat (first | (with_reducible first | exact HI.out | apply IsP.alloc | apply IsP.drewN | apply IsP.drew | refine IsP.far ?_ NG1.out | refine IsP.far ?_ NG2.out) | exact HI.out)), by (repeat (first | (with_reducible first | exact HB.out | apply below_alloc | apply pw_below_drewN | apply below_drew1 | refine below_set ?_ LB1.out | refine below_set ?_ LB2.out) | exact HB.out)), by (repeat (first | (with_reducible first | exact HK.out | apply keep_drewN | apply keep_drew | apply keep_alloc | refine keep_far ?_ LW1.out _ | refine keep_far ?_ LW2.out _) | exact HK.out))⟩)
    · have t1 : (r3.1 == ([105, 110] : List UInt8)) = false := by simpa using hin
      have HIN := Aside0.mk (show ¬ r3.1 = [105, 110] from hin)
      clear hin
      go_wp2_with fail
      rw [show (q : Int) = ((s.size - s2.l.length : Nat) : Int) by rw [EQ.out]]
      go_wp2_with fail
      (with_reducible refine (stop_P (w0 := w0) (st := r3.2) s2.l.length (P_le HOK.out) ?side1 ?side2).mono ?_)
      case side1 => (repeat (first | (with_reducible first | exact HI.out | apply IsP.alloc | apply IsP.drewN | apply IsP.drew | refine IsP.far ?_ NG1.out | refine IsP.far ?_ NG2.out) | exact HI.out))
      case side2 => (repeat (first | (with_reducible first | exact HB.out | apply below_alloc | apply pw_below_drewN | apply below_drew1 | refine below_set ?_ LB1.out | refine below_set ?_ LB2.out) | exact HB.out))
      rintro e w4 ⟨rfl, hi, hb, hk⟩
      generalize hE : stopS r3.2 s2.l.length = s4 at hi ⊢
      have Es4 := Aside0.mk hE
      clear hE
      have n0_ := Aside0.mk hi
      have n1_ := Aside0.mk hb
      have n2_ := Aside0.mk (KeepBut.trans (by (repeat (first | (with_reducible first | exact HK.out | apply keep_drewN | apply keep_drew | apply keep_alloc | refine keep_far ?_ LW1.out _ | refine keep_far ?_ LW2.out _) | exact HK.out))) hk (Or.inl rfl))
      clear HI HB HK
      have HI := n0_
      have HB := n1_
      have HK := n2_
      clear n0_ n1_ n2_ hi hb
      -- the two blocks of the call's own, behind a call
      have u1_ := Aside0.mk (show w4.heap[w.heap.size]? = some (.cells zPr 46 (0, 0)) from (hk.2 _ (by have := blk_lt BX1.out; exact this) (by have := NG1.out; omega) (by simp)).trans BX1.out)
      have u2_ := Aside0.mk (show w4.heap[w1.heap.size]? = some (.cells #[.string ⟨r1.1.toArray⟩, .int .i64 0, .int .i64 0, .int .i64 0, .string ⟨#[]⟩] 46 (0, 0)) from (hk.2 _ (by have := blk_lt BX2.out; exact this) (by have := NG2.out; omega) (by simp)).trans BX2.out)
      clear BX1 BX2 hk
      have BX1 := u1_
      have BX2 := u2_
      clear u1_ u2_
      have ES4 := Aside0.mk (show (if r3.1 = [105, 110] then r3.2 else stopS r3.2 s2.l.length) = s4 by rw [if_neg HIN.out]; exact Es4.out)
      go_wp2_with fail
      -- from 'in' on: two numbers
      go_wp2_with fail
      (with_reducible refine (number_P (w0 := w0) (st := s4) hs ?side1 ?side2).mono ?_)
      case side1 => (repeat (first | (with_reducible first | exact HI.out | apply IsP.alloc | apply IsP.drewN | apply IsP.drew | refine IsP.far ?_ NG1.out | refine IsP.far ?_ NG2.out) | exact HI.out))
      case side2 => (repeat (first | (with_reducible first | exact HB.out | apply below_alloc | apply pw_below_drewN | apply below_drew1 | refine below_set ?_ LB1.out | refine below_set ?_ LB2.out) | exact HB.out))
      rintro e w5 ⟨rfl, hi, hb, hk⟩
      generalize hE : numberS s4 = r5 at hi ⊢
      have Er5 := Aside0.mk hE
      clear hE
      have n0_ := Aside0.mk hi
      have n1_ := Aside0.mk hb
      have n2_ := Aside0.mk (KeepBut.trans (by (repeat (first | (with_reducible first | exact HK.out | apply keep_drewN | apply keep_drew | apply keep_alloc | refine keep_far ?_ LW1.out _ | refine keep_far ?_ LW2.out _) | exact HK.out))) hk (Or.inl rfl))
      clear HI HB HK
      have HI := n0_
      have HB := n1_
      have HK := n2_
      clear n0_ n1_ n2_ hi hb
      -- the two blocks of the call's own, behind a call
      have u1_ := Aside0.mk (show w5.heap[w.heap.size]? = some (.cells zPr 46 (0, 0)) from (hk.2 _ (by have := blk_lt BX1.out; exact this) (by have := NG1.out; omega) (by simp)).trans BX1.out)
      have u2_ := Aside0.mk (show w5.heap[w1.heap.size]? = some (.cells #[.string ⟨r1.1.toArray⟩, .int .i64 0, .int .i64 0, .int .i64 0, .string ⟨#[]⟩] 46 (0, 0)) from (hk.2 _ (by have := blk_lt BX2.out; exact this) (by have := NG2.out; omega) (by simp)).trans BX2.out)
      clear BX1 BX2 hk
      have BX1 := u1_
      have BX2 := u2_
      clear u1_ u2_
      have hx20 := blk_cell BX2.out 0
      have hx21 := blk_cell BX2.out 1
      have hx22 := blk_cell BX2.out 2
      have hx23 := blk_cell BX2.out 3
      have hx24 := blk_cell BX2.out 4
      have hy20 := blk_frozen BX2.out 0
      have hy21 := blk_frozen BX2.out 1
      have hy22 := blk_frozen BX2.out 2
      have hy23 := blk_frozen BX2.out 3
      have hy24 := blk_frozen BX2.out 4
      go_wp2_with fail
      clear hx20 hx21 hx22 hx23 hx24 hy20 hy21 hy22 hy23 hy24
      have u2_ := Aside0.mk (show ((w5.setCell ⟨w1.heap.size, 1, none⟩ (.int .i64 1)).setCell ⟨w1.heap.size, 2, none⟩ (.int .i64 r5.1)).heap[w1.heap.size]? = some (.cells #[.string ⟨r1.1.toArray⟩, .int .i64 1, .int .i64 r5.1, .int .i64 0, .string ⟨#[]⟩] 46 (0, 0)) by simpa using blk_set (blk_set BX2.out 1 (.int .i64 1)) 2 (.int .i64 r5.1))
      have u1_ := Aside0.mk (show ((w5.setCell ⟨w1.heap.size, 1, none⟩ (.int .i64 1)).setCell ⟨w1.heap.size, 2, none⟩ (.int .i64 r5.1)).heap[w.heap.size]? = some (.cells zPr 46 (0, 0)) from blk_far (blk_far BX1.out (p := ⟨w1.heap.size, 1, none⟩) (by have := HS1.out; show w.heap.size ≠ w1.heap.size; omega) _) (p := ⟨w1.heap.size, 2, none⟩) (by have := HS1.out; show w.heap.size ≠ w1.heap.size; omega) _)
      clear BX1 BX2
      have BX1 := u1_
      have BX2 := u2_
      clear u1_ u2_
      go_wp2_with fail
      (with_reducible refine (mark_P (w0 := w0) (st := r5.2) ⟨#[46, 46]⟩ (by decide) hs ?side1 ?side2).mono ?_)
      case side1 => (repeat (first | (with_reducible first | exact HI.out | apply IsP.alloc | apply IsP.drewN | apply IsP.drew | refine IsP.far ?_ NG1.out | refine IsP.far ?_ NG2.out) | exact HI.out))
      case side2 => (repeat (first | (with_reducible first | exact HB.out | apply below_alloc | apply pw_below_drewN | apply below_drew1 | refine below_set ?_ LB1.out | refine below_set ?_ LB2.out) | exact HB.out))
      rintro e w6 ⟨rfl, hi, hb, hk⟩
      generalize hE : markS (bytes ⟨#[46, 46]⟩) r5.2 = s6 at hi ⊢
      have Es6 := Aside0.mk hE
      clear hE
      have n0_ := Aside0.mk hi
      have n1_ := Aside0.mk hb
      have n2_ := Aside0.mk (KeepBut.trans (by (repeat (first | (with_reducible first | exact HK.out | apply keep_drewN | apply keep_drew | apply keep_alloc | refine keep_far ?_ LW1.out _ | refine keep_far ?_ LW2.out _) | exact HK.out))) hk (Or.inl rfl))
      clear HI HB HK
      have HI := n0_
      have HB := n1_
      have HK := n2_
      clear n0_ n1_ n2_ hi hb
      -- the two blocks of the call's own, behind a call
      have u1_ := Aside0.mk (show w6.heap[w.heap.size]? = some (.cells zPr 46 (0, 0)) from (hk.2 _ (by have := blk_lt BX1.out; exact this) (by have := NG1.out; omega) (by simp)).trans BX1.out)
      have u2_ := Aside0.mk (show w6.heap[w1.heap.size]? = some (.cells #[.string ⟨r1.1.toArray⟩, .int .i64 1, .int .i64 r5.1, .int .i64 0, .string ⟨#[]⟩] 46 (0, 0)) from (hk.2 _ (by have := blk_lt BX2.out; exact this) (by have := NG2.out; omega) (by simp)).trans BX2.out)
      clear BX1 BX2 hk
      have BX1 := u1_
      have BX2 := u2_
      clear u1_ u2_
      go_wp2_with fail
      (with_reducible refine (number_P (w0 := w0) (st := s6) hs ?side1 ?side2).mono ?_)
      case side1 => (repeat (first | (with_reducible first | exact HI.out | apply IsP.alloc | apply IsP.drewN | apply IsP.drew | refine IsP.far ?_ NG1.out | refine IsP.far ?_ NG2.out) | exact HI.out))
      case side2 => (repeat (first | (with_reducible first | exact HB.out | apply below_alloc | apply pw_below_drewN | apply below_drew1 | refine below_set ?_ LB1.out | refine below_set ?_ LB2.out) | exact HB.out))
      rintro e w7 ⟨rfl, hi, hb, hk⟩
      generalize hE : numberS s6 = r7 at hi ⊢
      have Er7 := Aside0.mk hE
      clear hE
      have n0_ := Aside0.mk hi
      have n1_ := Aside0.mk hb
      have n2_ := Aside0.mk (KeepBut.trans (by (repeat (first | (with_reducible first | exact HK.out | apply keep_drewN | apply keep_drew | apply keep_alloc | refine keep_far ?_ LW1.out _ | refine keep_far ?_ LW2.out _) | exact HK.out))) hk (Or.inl rfl))
      clear HI HB HK
      have HI := n0_
      have HB := n1_
      have HK := n2_
      clear n0_ n1_ n2_ hi hb
      -- the two blocks of the call's own, behind a call
      have u1_ := Aside0.mk (show w7.heap[w.heap.size]? = some (.cells zPr 46 (0, 0)) from (hk.2 _ (by have := blk_lt BX1.out; exact this) (by have := NG1.out; omega) (by simp)).trans BX1.out)
      have u2_ := Aside0.mk (show w7.heap[w1.heap.size]? = some (.cells #[.string ⟨r1.1.toArray⟩, .int .i64 1, .int .i64 r5.1, .int .i64 0, .string ⟨#[]⟩] 46 (0, 0)) from (hk.2 _ (by have := blk_lt BX2.out; exact this) (by have := NG2.out; omega) (by simp)).trans BX2.out)
      clear BX1 BX2 hk
      have BX1 := u1_
      have BX2 := u2_
      clear u1_ u2_
      have hx20 := blk_cell BX2.out 0
      have hx21 := blk_cell BX2.out 1
      have hx22 := blk_cell BX2.out 2
      have hx23 := blk_cell BX2.out 3
      have hx24 := blk_cell BX2.out 4
      have hy20 := blk_frozen BX2.out 0
      have hy21 := blk_frozen BX2.out 1
      have hy22 := blk_frozen BX2.out 2
      have hy23 := blk_frozen BX2.out 3
      have hy24 := blk_frozen BX2.out 4
      have hx10 := (blk_cell BX1.out 0).trans (show zPr[0]? = some (.string ⟨#[]⟩) from rfl)
      have hx11 := (blk_cell BX1.out 1).trans (show zPr[1]? = some (.int .i64 0) from rfl)
      have hx12 := (blk_cell BX1.out 2).trans (show zPr[2]? = some (.int .i64 0) from rfl)
      have hx13 := (blk_cell BX1.out 3).trans (show zPr[3]? = some (.int .i64 0) from rfl)
      have hx14 := (blk_cell BX1.out 4).trans (show zPr[4]? = some (.string ⟨#[]⟩) from rfl)
      have hy10 := blk_frozen BX1.out 0
      have hy11 := blk_frozen BX1.out 1
      have hy12 := blk_frozen BX1.out 2
      have hy13 := blk_frozen BX1.out 3
      have hy14 := blk_frozen BX1.out 4
      have hne1 : ¬ (w.heap.size = w1.heap.size) := by have := HS1.out; omega
      have hne2 : ¬ (w1.heap.size = w.heap.size) := by have := HS1.out; omega
      go_wp2
      refine bodyPost_ret (v := prV ⟨r1.1, 1, r5.1, r7.1, []⟩) ?_ rfl ?_
      · simp [results, Tryd.results33, go_sem, prV, hne1, hne2, hx10, hx11, hx12, hx13, hx14]
      · (rw [show predS st = (⟨r1.1, 1, r5.1, r7.1, []⟩, r7.2) from by unfold predS; simp only [Er1.out, Es2.out]; rw [if_neg (by simp [HL2.out]), if_neg (by simp [HL2.out])]; unfold inS; simp only [Er3.out, ES4.out, Er5.out]; rw [show markS [46, 46] r5.2 = s6 from Es6.out, Er7.out]]; exact ⟨rfl, by (repeat (first | (with_reducible first | exact HI.out | apply IsP.alloc | apply IsP.drewN | apply IsP.drew | refine IsP.far ?_ NG1.out | refine IsP.far ?_ NG2.out) | exact HI.out)), by (repeat (first | (with_reducible first | exact HB.out | apply below_alloc | apply pw_below_drewN | apply below_drew1 | refine below_set ?_ LB1.out | refine below_set ?_ LB2.out) | exact HB.out)), by (repeat (first | (with_reducible first | exact HK.out | apply keep_drewN | apply keep_drew | apply keep_alloc | refine keep_far ?_ LW1.out _ | refine keep_far ?_ LW2.out _) | exact HK.out))⟩)
  | cons c r =>
    rw [hl] at hqd
    obtain ⟨hlt, hbt, _⟩ := bt_cons hqd
    have hcc := dropB_cons hlt
    rw [hqd] at hcc
    have hx : ∀ h : q < s.size, s[q]'h = c := fun _ => by injection hcc with h5; exact h5.symm
    have q1 := decide_eq_true (show ((q : Int) < (s.size : Int)) by omega)
    have q2 := eq_true (show ((q : Int) < (s.size : Int)) by omega)
    have q3 := eq_true (show (0 : Int) ≤ (q : Int) by omega)
    have HL2 := Aside0.mk hl
    clear hl hqd hcc hbt
    by_cases h61 : c = 61
    · have e61 : ((c.toNat : Int) == 61) = true := by rw [h61]; rfl
      have HC := Aside0.mk h61
      clear h61
      go_wp2_with fail
      repeat (go_quiet (fail); try go_wp2_with fail)
      clear hc0 hc1 hc2 hf0 hf1 hf2 q1 q2 q3 hx
      go_wp2_with fail
      (with_reducible refine (mark_P (w0 := w0) (st := s2) ⟨#[61]⟩ (by decide) hs ?side1 ?side2).mono ?_)
      case side1 => (repeat (first | (with_reducible first | exact HI.out | apply IsP.alloc | apply IsP.drewN | apply IsP.drew | refine IsP.far ?_ NG1.out | refine IsP.far ?_ NG2.out) | exact HI.out))
      case side2 => (repeat (first | (with_reducible first | exact HB.out | apply below_alloc | apply pw_below_drewN | apply below_drew1 | refine below_set ?_ LB1.out | refine below_set ?_ LB2.out) | exact HB.out))
      rintro e w3 ⟨rfl, hi, hb, hk⟩
      generalize hE : markS (bytes ⟨#[61]⟩) s2 = s3 at hi ⊢
      have Es3 := Aside0.mk hE
      clear hE
      have n0_ := Aside0.mk hi
      have n1_ := Aside0.mk hb
      have n2_ := Aside0.mk (KeepBut.trans (by (repeat (first | (with_reducible first | exact HK.out | apply keep_drewN | apply keep_drew | apply keep_alloc | refine keep_far ?_ LW1.out _ | refine keep_far ?_ LW2.out _) | exact HK.out))) hk (Or.inl rfl))
      clear HI HB HK
      have HI := n0_
      have HB := n1_
      have HK := n2_
      clear n0_ n1_ n2_ hi hb
      -- the two blocks of the call's own, behind a call
      have u1_ := Aside0.mk (show w3.heap[w.heap.size]? = some (.cells zPr 46 (0, 0)) from (hk.2 _ (by have := blk_lt BX1.out; exact this) (by have := NG1.out; omega) (by simp)).trans BX1.out)
      have u2_ := Aside0.mk (show w3.heap[w1.heap.size]? = some (.cells #[.string ⟨r1.1.toArray⟩, .int .i64 0, .int .i64 0, .int .i64 0, .string ⟨#[]⟩] 46 (0, 0)) from (hk.2 _ (by have := blk_lt BX2.out; exact this) (by have := NG2.out; omega) (by simp)).trans BX2.out)
      clear BX1 BX2 hk
      have BX1 := u1_
      have BX2 := u2_
      clear u1_ u2_
      go_wp2_with fail
      (with_reducible refine (text_P (w0 := w0) (st := s3) hs ?side1 ?side2).mono ?_)
      case side1 => (repeat (first | (with_reducible first | exact HI.out | apply IsP.alloc | apply IsP.drewN | apply IsP.drew | refine IsP.far ?_ NG1.out | refine IsP.far ?_ NG2.out) | exact HI.out))
      case side2 => (repeat (first | (with_reducible first | exact HB.out | apply below_alloc | apply pw_below_drewN | apply below_drew1 | refine below_set ?_ LB1.out | refine below_set ?_ LB2.out) | exact HB.out))
      rintro e w4 ⟨rfl, hi, hb, hk⟩
      generalize hE : textS s3 = r4 at hi ⊢
      have Er4 := Aside0.mk hE
      clear hE
      have n0_ := Aside0.mk hi
      have n1_ := Aside0.mk hb
      have n2_ := Aside0.mk (KeepBut.trans (by (repeat (first | (with_reducible first | exact HK.out | apply keep_drewN | apply keep_drew | apply keep_alloc | refine keep_far ?_ LW1.out _ | refine keep_far ?_ LW2.out _) | exact HK.out))) hk (Or.inl rfl))
      clear HI HB HK
      have HI := n0_
      have HB := n1_
      have HK := n2_
      clear n0_ n1_ n2_ hi hb
      -- the two blocks of the call's own, behind a call
      have u1_ := Aside0.mk (show w4.heap[w.heap.size]? = some (.cells zPr 46 (0, 0)) from (hk.2 _ (by have := blk_lt BX1.out; exact this) (by have := NG1.out; omega) (by simp)).trans BX1.out)
      have u2_ := Aside0.mk (show w4.heap[w1.heap.size]? = some (.cells #[.string ⟨r1.1.toArray⟩, .int .i64 0, .int .i64 0, .int .i64 0, .string ⟨#[]⟩] 46 (0, 0)) from (hk.2 _ (by have := blk_lt BX2.out; exact this) (by have := NG2.out; omega) (by simp)).trans BX2.out)
      clear BX1 BX2 hk
      have BX1 := u1_
      have BX2 := u2_
      clear u1_ u2_
      have hx20 := blk_cell BX2.out 0
      have hx21 := blk_cell BX2.out 1
      have hx22 := blk_cell BX2.out 2
      have hx23 := blk_cell BX2.out 3
      have hx24 := blk_cell BX2.out 4
      have hy20 := blk_frozen BX2.out 0
      have hy21 := blk_frozen BX2.out 1
      have hy22 := blk_frozen BX2.out 2
      have hy23 := blk_frozen BX2.out 3
      have hy24 := blk_frozen BX2.out 4
      have hx10 := (blk_cell BX1.out 0).trans (show zPr[0]? = some (.string ⟨#[]⟩) from rfl)
      have hx11 := (blk_cell BX1.out 1).trans (show zPr[1]? = some (.int .i64 0) from rfl)
      have hx12 := (blk_cell BX1.out 2).trans (show zPr[2]? = some (.int .i64 0) from rfl)
      have hx13 := (blk_cell BX1.out 3).trans (show zPr[3]? = some (.int .i64 0) from rfl)
      have hx14 := (blk_cell BX1.out 4).trans (show zPr[4]? = some (.string ⟨#[]⟩) from rfl)
      have hy10 := blk_frozen BX1.out 0
      have hy11 := blk_frozen BX1.out 1
      have hy12 := blk_frozen BX1.out 2
      have hy13 := blk_frozen BX1.out 3
      have hy14 := blk_frozen BX1.out 4
      have hne1 : ¬ (w.heap.size = w1.heap.size) := by have := HS1.out; omega
      have hne2 : ¬ (w1.heap.size = w.heap.size) := by have := HS1.out; omega
      go_wp2
      refine bodyPost_ret (v := prV ⟨r1.1, 2, 0, 0, r4.1⟩) ?_ rfl ?_
      · simp [results, Tryd.results33, go_sem, prV, hne1, hne2, hx10, hx11, hx12, hx13, hx14]
      · (rw [show predS st = (⟨r1.1, 2, 0, 0, r4.1⟩, r4.2) from by unfold predS; simp only [Er1.out, Es2.out, HL2.out, HC.out, List.head?_cons, if_true]; rw [show markS [61] s2 = s3 from Es3.out, Er4.out]]; exact ⟨rfl, by (repeat (first | (with_reducible first | exact HI.out | apply IsP.alloc | apply IsP.drewN | apply IsP.drew | refine IsP.far ?_ NG1.out | refine IsP.far ?_ NG2.out) | exact HI.out)), by (repeat (first | (with_reducible first | exact HB.out | apply below_alloc | apply pw_below_drewN | apply below_drew1 | refine below_set ?_ LB1.out | refine below_set ?_ LB2.out) | exact HB.out)), by (repeat (first | (with_reducible first | exact HK.out | apply keep_drewN | apply keep_drew | apply keep_alloc | refine keep_far ?_ LW1.out _ | refine keep_far ?_ LW2.out _) | exact HK.out))⟩)
    · have e61 : ((c.toNat : Int) == 61) = false := by rw [show (61 : Int) = ((61 : Nat) : Int) from rfl, c_eq (by decide)]; simpa using h61
      by_cases h94 : c = 94
      · have e94 : ((c.toNat : Int) == 94) = true := by rw [h94]; rfl
        have HC := Aside0.mk h94
        clear h61 h94
        go_wp2_with fail
        repeat (go_quiet (fail); try go_wp2_with fail)
        clear hc0 hc1 hc2 hf0 hf1 hf2 q1 q2 q3 hx
        go_wp2_with fail
        (with_reducible refine (mark_P (w0 := w0) (st := s2) ⟨#[94, 61]⟩ (by decide) hs ?side1 ?side2).mono ?_)
        case side1 => (repeat (first | (with_reducible first | exact HI.out | apply IsP.alloc | apply IsP.drewN | apply IsP.drew | refine IsP.far ?_ NG1.out | refine IsP.far ?_ NG2.out) | exact HI.out))
        case side2 => (repeat (first | (with_reducible first | exact HB.out | apply below_alloc | apply pw_below_drewN | apply below_drew1 | refine below_set ?_ LB1.out | refine below_set ?_ LB2.out) | exact HB.out))
        rintro e w3 ⟨rfl, hi, hb, hk⟩
        generalize hE : markS (bytes ⟨#[94, 61]⟩) s2 = s3 at hi ⊢
        have Es3 := Aside0.mk hE
        clear hE
        have n0_ := Aside0.mk hi
        have n1_ := Aside0.mk hb
        have n2_ := Aside0.mk (KeepBut.trans (by (repeat (first | (with_reducible first | exact HK.out | apply keep_drewN | apply keep_drew | apply keep_alloc | refine keep_far ?_ LW1.out _ | refine keep_far ?_ LW2.out _) | exact HK.out))) hk (Or.inl rfl))
        clear HI HB HK
        have HI := n0_
        have HB := n1_
        have HK := n2_
        clear n0_ n1_ n2_ hi hb
        -- the two blocks of the call's own, behind a call
        have u1_ := Aside0.mk (show w3.heap[w.heap.size]? = some (.cells zPr 46 (0, 0)) from (hk.2 _ (by have := blk_lt BX1.out; exact this) (by have := NG1.out; omega) (by simp)).trans BX1.out)
        have u2_ := Aside0.mk (show w3.heap[w1.heap.size]? = some (.cells #[.string ⟨r1.1.toArray⟩, .int .i64 0, .int .i64 0, .int .i64 0, .string ⟨#[]⟩] 46 (0, 0)) from (hk.2 _ (by have := blk_lt BX2.out; exact this) (by have := NG2.out; omega) (by simp)).trans BX2.out)
        clear BX1 BX2 hk
        have BX1 := u1_
        have BX2 := u2_
        clear u1_ u2_
        go_wp2_with fail
        (with_reducible refine (text_P (w0 := w0) (st := s3) hs ?side1 ?side2).mono ?_)
        case side1 => (repeat (first | (with_reducible first | exact HI.out | apply IsP.alloc | apply IsP.drewN | apply IsP.drew | refine IsP.far ?_ NG1.out | refine IsP.far ?_ NG2.out) | exact HI.out))
        case side2 => (repeat (first | (with_reducible first | exact HB.out | apply below_alloc | apply pw_below_drewN | apply below_drew1 | refine below_set ?_ LB1.out | refine below_set ?_ LB2.out) | exact HB.out))
        rintro e w4 ⟨rfl, hi, hb, hk⟩
        generalize hE : textS s3 = r4 at hi ⊢
        have Er4 := Aside0.mk hE
        clear hE
        have n0_ := Aside0.mk hi
        have n1_ := Aside0.mk hb
        have n2_ := Aside0.mk (KeepBut.trans (by (repeat (first | (with_reducible first | exact HK.out | apply keep_drewN | apply keep_drew | apply keep_alloc | refine keep_far ?_ LW1.out _ | refine keep_far ?_ LW2.out _) | exact HK.out))) hk (Or.inl rfl))
        clear HI HB HK
        have HI := n0_
        have HB := n1_
        have HK := n2_
        clear n0_ n1_ n2_ hi hb
        -- the two blocks of the call's own, behind a call
        have u1_ := Aside0.mk (show w4.heap[w.heap.size]? = some (.cells zPr 46 (0, 0)) from (hk.2 _ (by have := blk_lt BX1.out; exact this) (by have := NG1.out; omega) (by simp)).trans BX1.out)
        have u2_ := Aside0.mk (show w4.heap[w1.heap.size]? = some (.cells #[.string ⟨r1.1.toArray⟩, .int .i64 0, .int .i64 0, .int .i64 0, .string ⟨#[]⟩] 46 (0, 0)) from (hk.2 _ (by have := blk_lt BX2.out; exact this) (by have := NG2.out; omega) (by simp)).trans BX2.out)
        clear BX1 BX2 hk
        have BX1 := u1_
        have BX2 := u2_
        clear u1_ u2_
        have hx20 := blk_cell BX2.out 0
        have hx21 := blk_cell BX2.out 1
        have hx22 := blk_cell BX2.out 2
        have hx23 := blk_cell BX2.out 3
        have hx24 := blk_cell BX2.out 4
        have hy20 := blk_frozen BX2.out 0
        have hy21 := blk_frozen BX2.out 1
        have hy22 := blk_frozen BX2.out 2
        have hy23 := blk_frozen BX2.out 3
        have hy24 := blk_frozen BX2.out 4
        have hx10 := (blk_cell BX1.out 0).trans (show zPr[0]? = some (.string ⟨#[]⟩) from rfl)
        have hx11 := (blk_cell BX1.out 1).trans (show zPr[1]? = some (.int .i64 0) from rfl)
        have hx12 := (blk_cell BX1.out 2).trans (show zPr[2]? = some (.int .i64 0) from rfl)
        have hx13 := (blk_cell BX1.out 3).trans (show zPr[3]? = some (.int .i64 0) from rfl)
        have hx14 := (blk_cell BX1.out 4).trans (show zPr[4]? = some (.string ⟨#[]⟩) from rfl)
        have hy10 := blk_frozen BX1.out 0
        have hy11 := blk_frozen BX1.out 1
        have hy12 := blk_frozen BX1.out 2
        have hy13 := blk_frozen BX1.out 3
        have hy14 := blk_frozen BX1.out 4
        have hne1 : ¬ (w.heap.size = w1.heap.size) := by have := HS1.out; omega
        have hne2 : ¬ (w1.heap.size = w.heap.size) := by have := HS1.out; omega
        go_wp2
        refine bodyPost_ret (v := prV ⟨r1.1, 3, 0, 0, r4.1⟩) ?_ rfl ?_
        · simp [results, Tryd.results33, go_sem, prV, hne1, hne2, hx10, hx11, hx12, hx13, hx14]
        · (rw [show predS st = (⟨r1.1, 3, 0, 0, r4.1⟩, r4.2) from by unfold predS; simp only [Er1.out, Es2.out, HL2.out, HC.out, List.head?_cons]; rw [if_neg (by simp), if_pos trivial, show markS [94, 61] s2 = s3 from Es3.out, Er4.out]]; exact ⟨rfl, by (repeat (first | (with_reducible first | exact HI.out | apply IsP.alloc | apply IsP.drewN | apply IsP.drew | refine IsP.far ?_ NG1.out | refine IsP.far ?_ NG2.out) | exact HI.out)), by (repeat (first | (with_reducible first | exact HB.out | apply below_alloc | apply pw_below_drewN | apply below_drew1 | refine below_set ?_ LB1.out | refine below_set ?_ LB2.out) | exact HB.out)), by (repeat (first | (with_reducible first | exact HK.out | apply keep_drewN | apply keep_drew | apply keep_alloc | refine keep_far ?_ LW1.out _ | refine keep_far ?_ LW2.out _) | exact HK.out))⟩)
      · have e94 : ((c.toNat : Int) == 94) = false := by rw [show (94 : Int) = ((94 : Nat) : Int) from rfl, c_eq (by decide)]; simpa using h94
        have H61 := Aside0.mk h61
        have H94 := Aside0.mk h94
        clear h61 h94
        go_wp2_with fail
        repeat (go_quiet (fail); try go_wp2_with fail)
        go_wp2_with fail
        (with_reducible refine (word_P (w0 := w0) (st := s2) hs ?side1 ?side2).mono ?_)
        case side1 => (repeat (first | (with_reducible first | exact HI.out | apply IsP.alloc | apply IsP.drewN | apply IsP.drew | refine IsP.far ?_ NG1.out | refine IsP.far ?_ NG2.out) | exact HI.out))
        case side2 => (repeat (first | (with_reducible first | exact HB.out | apply below_alloc | apply pw_below_drewN | apply below_drew1 | refine below_set ?_ LB1.out | refine below_set ?_ LB2.out) | exact HB.out))
        rintro e w3 ⟨rfl, hi, hb, hk⟩
        generalize hE : wordS s2 = r3 at hi ⊢
        have Er3 := Aside0.mk hE
        clear hE
        have n0_ := Aside0.mk hi
        have n1_ := Aside0.mk hb
        have n2_ := Aside0.mk (KeepBut.trans (by (repeat (first | (with_reducible first | exact HK.out | apply keep_drewN | apply keep_drew | apply keep_alloc | refine keep_far ?_ LW1.out _ | refine keep_far ?_ LW2.out _) | exact HK.out))) hk (Or.inl rfl))
        clear HI HB HK
        have HI := n0_
        have HB := n1_
        have HK := n2_
        clear n0_ n1_ n2_ hi hb
        -- the two blocks of the call's own, behind a call
        have u1_ := Aside0.mk (show w3.heap[w.heap.size]? = some (.cells zPr 46 (0, 0)) from (hk.2 _ (by have := blk_lt BX1.out; exact this) (by have := NG1.out; omega) (by simp)).trans BX1.out)
        have u2_ := Aside0.mk (show w3.heap[w1.heap.size]? = some (.cells #[.string ⟨r1.1.toArray⟩, .int .i64 0, .int .i64 0, .int .i64 0, .string ⟨#[]⟩] 46 (0, 0)) from (hk.2 _ (by have := blk_lt BX2.out; exact this) (by have := NG2.out; omega) (by simp)).trans BX2.out)
        clear BX1 BX2 hk
        have BX1 := u1_
        have BX2 := u2_
        clear u1_ u2_
        by_cases hin : r3.1 = [105, 110]
        · have t1 : (r3.1 == ([105, 110] : List UInt8)) = true := by simpa using hin
          have HIN := Aside0.mk (show r3.1 = [105, 110] from hin)
          clear hin
          obtain ⟨s4, hs4⟩ : ∃ s4, r3.2 = s4 := ⟨_, rfl⟩
          have ES4 := Aside0.mk (show (if r3.1 = [105, 110] then r3.2 else stopS r3.2 s2.l.length) = s4 by rw [if_pos HIN.out]; exact hs4)
          rw [hs4] at HI
          clear hs4
          go_wp2_with fail
          -- from 'in' on: two numbers
          go_wp2_with fail
          (with_reducible refine (number_P (w0 := w0) (st := s4) hs ?side1 ?side2).mono ?_)
          case side1 => (repeat (first | (with_reducible first | exact HI.out | apply IsP.alloc | apply IsP.drewN | apply IsP.drew | refine IsP.far ?_ NG1.out | refine IsP.far ?_ NG2.out) | exact HI.out))
          case side2 => (repeat (first | (with_reducible first | exact HB.out | apply below_alloc | apply pw_below_drewN | apply below_drew1 | refine below_set ?_ LB1.out | refine below_set ?_ LB2.out) | exact HB.out))
          rintro e w5 ⟨rfl, hi, hb, hk⟩
          generalize hE : numberS s4 = r5 at hi ⊢
          have Er5 := Aside0.mk hE
          clear hE
          have n0_ := Aside0.mk hi
          have n1_ := Aside0.mk hb
          have n2_ := Aside0.mk (KeepBut.trans (by (repeat (first | (with_reducible first | exact HK.out | apply keep_drewN | apply keep_drew | apply keep_alloc | refine keep_far ?_ LW1.out _ | refine keep_far ?_ LW2.out _) | exact HK.out))) hk (Or.inl rfl))
          clear HI HB HK
          have HI := n0_
          have HB := n1_
          have HK := n2_
          clear n0_ n1_ n2_ hi hb
          -- the two blocks of the call's own, behind a call
          have u1_ := Aside0.mk (show w5.heap[w.heap.size]? = some (.cells zPr 46 (0, 0)) from (hk.2 _ (by have := blk_lt BX1.out; exact this) (by have := NG1.out; omega) (by simp)).trans BX1.out)
          have u2_ := Aside0.mk (show w5.heap[w1.heap.size]? = some (.cells #[.string ⟨r1.1.toArray⟩, .int .i64 0, .int .i64 0, .int .i64 0, .string ⟨#[]⟩] 46 (0, 0)) from (hk.2 _ (by have := blk_lt BX2.out; exact this) (by have := NG2.out; omega) (by simp)).trans BX2.out)
          clear BX1 BX2 hk
          have BX1 := u1_
          have BX2 := u2_
          clear u1_ u2_
          have hx20 := blk_cell BX2.out 0
          have hx21 := blk_cell BX2.out 1
          have hx22 := blk_cell BX2.out 2
          have hx23 := blk_cell BX2.out 3
          have hx24 := blk_cell BX2.out 4
          have hy20 := blk_frozen BX2.out 0
          have hy21 := blk_frozen BX2.out 1
          have hy22 := blk_frozen BX2.out 2
          have hy23 := blk_frozen BX2.out 3
          have hy24 := blk_frozen BX2.out 4
          go_wp2_with fail
          clear hx20 hx21 hx22 hx23 hx24 hy20 hy21 hy22 hy23 hy24
          have u2_ := Aside0.mk (show ((w5.setCell ⟨w1.heap.size, 1, none⟩ (.int .i64 1)).setCell ⟨w1.heap.size, 2, none⟩ (.int .i64 r5.1)).heap[w1.heap.size]? = some (.cells #[.string ⟨r1.1.toArray⟩, .int .i64 1, .int .i64 r5.1, .int .i64 0, .string ⟨#[]⟩] 46 (0, 0)) by simpa using blk_set (blk_set BX2.out 1 (.int .i64 1)) 2 (.int .i64 r5.1))
          have u1_ := Aside0.mk (show ((w5.setCell ⟨w1.heap.size, 1, none⟩ (.int .i64 1)).setCell ⟨w1.heap.size, 2, none⟩ (.int .i64 r5.1)).heap[w.heap.size]? = some (.cells zPr 46 (0, 0)) from blk_far (blk_far BX1.out (p := ⟨w1.heap.size, 1, none⟩) (by have := HS1.out; show w.heap.size ≠ w1.heap.size; omega) _) (p := ⟨w1.heap.size, 2, none⟩) (by have := HS1.out; show w.heap.size ≠ w1.heap.size; omega) _)
          clear BX1 BX2
          have BX1 := u1_
          have BX2 := u2_
          clear u1_ u2_
          go_wp2_with fail
          (with_reducible refine (mark_P (w0 := w0) (st := r5.2) ⟨#[46, 46]⟩ (by decide) hs ?side1 ?side2).mono ?_)
          case side1 => (repeat (first | (with_reducible first | exact HI.out | apply IsP.alloc | apply IsP.drewN | apply IsP.drew | refine IsP.far ?_ NG1.out | refine IsP.far ?_ NG2.out) | exact HI.out))
          case side2 => (repeat (first | (with_reducible first | exact HB.out | apply below_alloc | apply pw_below_drewN | apply below_drew1 | refine below_set ?_ LB1.out | refine below_set ?_ LB2.out) | exact HB.out))
          rintro e w6 ⟨rfl, hi, hb, hk⟩
          generalize hE : markS (bytes ⟨#[46, 46]⟩) r5.2 = s6 at hi ⊢
          have Es6 := Aside0.mk hE
          clear hE
          have n0_ := Aside0.mk hi
          have n1_ := Aside0.mk hb
          have n2_ := Aside0.mk (KeepBut.trans (by (repeat (first | (with_reducible first | exact HK.out | apply keep_drewN | apply keep_drew | apply keep_alloc | refine keep_far ?_ LW1.out _ | refine keep_far ?_ LW2.out _) | exact HK.out))) hk (Or.inl rfl))
          clear HI HB HK
          have HI := n0_
          have HB := n1_
          have HK := n2_
          clear n0_ n1_ n2_ hi hb
          -- the two blocks of the call's own, behind a call
          have u1_ := Aside0.mk (show w6.heap[w.heap.size]? = some (.cells zPr 46 (0, 0)) from (hk.2 _ (by have := blk_lt BX1.out; exact this) (by have := NG1.out; omega) (by simp)).trans BX1.out)
          have u2_ := Aside0.mk (show w6.heap[w1.heap.size]? = some (.cells #[.string ⟨r1.1.toArray⟩, .int .i64 1, .int .i64 r5.1, .int .i64 0, .string ⟨#[]⟩] 46 (0, 0)) from (hk.2 _ (by have := blk_lt BX2.out; exact this) (by have := NG2.out; omega) (by simp)).trans BX2.out)
          clear BX1 BX2 hk
          have BX1 := u1_
          have BX2 := u2_
          clear u1_ u2_
          go_wp2_with fail
          (with_reducible refine (number_P (w0 := w0) (st := s6) hs ?side1 ?side2).mono ?_)
          case side1 => (repeat (first | (with_reducible first | exact HI.out | apply IsP.alloc | apply IsP.drewN | apply IsP.drew | refine IsP.far ?_ NG1.out | refine IsP.far ?_ NG2.out) | exact HI.out))
          case side2 => (repeat (first | (with_reducible first | exact HB.out | apply below_alloc | apply pw_below_drewN | apply below_drew1 | refine below_set ?_ LB1.out | refine below_set ?_ LB2.out) | exact HB.out))
          rintro e w7 ⟨rfl, hi, hb, hk⟩
          generalize hE : numberS s6 = r7 at hi ⊢
          have Er7 := Aside0.mk hE
          clear hE
          have n0_ := Aside0.mk hi
          have n1_ := Aside0.mk hb
          have n2_ := Aside0.mk (KeepBut.trans (by (repeat (first | (with_reducible first | exact HK.out | apply keep_drewN | apply keep_drew | apply keep_alloc | refine keep_far ?_ LW1.out _ | refine keep_far ?_ LW2.out _) | exact HK.out))) hk (Or.inl rfl))
          clear HI HB HK
          have HI := n0_
          have HB := n1_
          have HK := n2_
          clear n0_ n1_ n2_ hi hb
          -- the two blocks of the call's own, behind a call
          have u1_ := Aside0.mk (show w7.heap[w.heap.size]? = some (.cells zPr 46 (0, 0)) from (hk.2 _ (by have := blk_lt BX1.out; exact this) (by have := NG1.out; omega) (by simp)).trans BX1.out)
          have u2_ := Aside0.mk (show w7.heap[w1.heap.size]? = some (.cells #[.string ⟨r1.1.toArray⟩, .int .i64 1, .int .i64 r5.1, .int .i64 0, .string ⟨#[]⟩] 46 (0, 0)) from (hk.2 _ (by have := blk_lt BX2.out; exact this) (by have := NG2.out; omega) (by simp)).trans BX2.out)
          clear BX1 BX2 hk
          have BX1 := u1_
          have BX2 := u2_
          clear u1_ u2_
          have hx20 := blk_cell BX2.out 0
          have hx21 := blk_cell BX2.out 1
          have hx22 := blk_cell BX2.out 2
          have hx23 := blk_cell BX2.out 3
          have hx24 := blk_cell BX2.out 4
          have hy20 := blk_frozen BX2.out 0
          have hy21 := blk_frozen BX2.out 1
          have hy22 := blk_frozen BX2.out 2
          have hy23 := blk_frozen BX2.out 3
          have hy24 := blk_frozen BX2.out 4
          have hx10 := (blk_cell BX1.out 0).trans (show zPr[0]? = some (.string ⟨#[]⟩) from rfl)
          have hx11 := (blk_cell BX1.out 1).trans (show zPr[1]? = some (.int .i64 0) from rfl)
          have hx12 := (blk_cell BX1.out 2).trans (show zPr[2]? = some (.int .i64 0) from rfl)
          have hx13 := (blk_cell BX1.out 3).trans (show zPr[3]? = some (.int .i64 0) from rfl)
          have hx14 := (blk_cell BX1.out 4).trans (show zPr[4]? = some (.string ⟨#[]⟩) from rfl)
          have hy10 := blk_frozen BX1.out 0
          have hy11 := blk_frozen BX1.out 1
          have hy12 := blk_frozen BX1.out 2
          have hy13 := blk_frozen BX1.out 3
          have hy14 := blk_frozen BX1.out 4
          have hne1 : ¬ (w.heap.size = w1.heap.size) := by have := HS1.out; omega
          have hne2 : ¬ (w1.heap.size = w.heap.size) := by have := HS1.out; omega
          go_wp2
          refine bodyPost_ret (v := prV ⟨r1.1, 1, r5.1, r7.1, []⟩) ?_ rfl ?_
          · simp [results, Tryd.results33, go_sem, prV, hne1, hne2, hx10, hx11, hx12, hx13, hx14]
          · (rw [show predS st = (⟨r1.1, 1, r5.1, r7.1, []⟩, r7.2) from by unfold predS; simp only [Er1.out, Es2.out]; rw [if_neg (by rw [HL2.out]; simpa using H61.out), if_neg (by rw [HL2.out]; simpa using H94.out)]; unfold inS; simp only [Er3.out, ES4.out, Er5.out]; rw [show markS [46, 46] r5.2 = s6 from Es6.out, Er7.out]]; exact ⟨rfl, by (repeat (first | (with_reducible first | exact HI.out | apply IsP.alloc | apply IsP.drewN | apply IsP.drew | refine IsP.far ?_ NG1.out | refine IsP.far ?_ NG2.out) | exact HI.out)), by (repeat (first | (with_reducible first | exact HB.out | apply below_alloc | apply pw_below_drewN | apply below_drew1 | refine below_set ?_ LB1.out | refine below_set ?_ LB2.out) | exact HB.out)), by (repeat (first | (with_reducible first | exact HK.out | apply keep_drewN | apply keep_drew | apply keep_alloc | refine keep_far ?_ LW1.out _ | refine keep_far ?_ LW2.out _) | exact HK.out))⟩)
        · have t1 : (r3.1 == ([105, 110] : List UInt8)) = false := by simpa using hin
          have HIN := Aside0.mk (show ¬ r3.1 = [105, 110] from hin)
          clear hin
          go_wp2_with fail
          rw [show (q : Int) = ((s.size - s2.l.length : Nat) : Int) by rw [EQ.out]]
          go_wp2_with fail
          (with_reducible refine (stop_P (w0 := w0) (st := r3.2) s2.l.length (P_le HOK.out) ?side1 ?side2).mono ?_)
          case side1 => (repeat (first | (with_reducible first | exact HI.out | apply IsP.alloc | apply IsP.drewN | apply IsP.drew | refine IsP.far ?_ NG1.out | refine IsP.far ?_ NG2.out) | exact HI.out))
          case side2 => (repeat (first | (with_reducible first | exact HB.out | apply below_alloc | apply pw_below_drewN | apply below_drew1 | refine below_set ?_ LB1.out | refine below_set ?_ LB2.out) | exact HB.out))
          rintro e w4 ⟨rfl, hi, hb, hk⟩
          generalize hE : stopS r3.2 s2.l.length = s4 at hi ⊢
          have Es4 := Aside0.mk hE
          clear hE
          have n0_ := Aside0.mk hi
          have n1_ := Aside0.mk hb
          have n2_ := Aside0.mk (KeepBut.trans (by (repeat (first | (with_reducible first | exact HK.out | apply keep_drewN | apply keep_drew | apply keep_alloc | refine keep_far ?_ LW1.out _ | refine keep_far ?_ LW2.out _) | exact HK.out))) hk (Or.inl rfl))
          clear HI HB HK
          have HI := n0_
          have HB := n1_
          have HK := n2_
          clear n0_ n1_ n2_ hi hb
          -- the two blocks of the call's own, behind a call
          have u1_ := Aside0.mk (show w4.heap[w.heap.size]? = some (.cells zPr 46 (0, 0)) from (hk.2 _ (by have := blk_lt BX1.out; exact this) (by have := NG1.out; omega) (by simp)).trans BX1.out)
          have u2_ := Aside0.mk (show w4.heap[w1.heap.size]? = some (.cells #[.string ⟨r1.1.toArray⟩, .int .i64 0, .int .i64 0, .int .i64 0, .string ⟨#[]⟩] 46 (0, 0)) from (hk.2 _ (by have := blk_lt BX2.out; exact this) (by have := NG2.out; omega) (by simp)).trans BX2.out)
          clear BX1 BX2 hk
          have BX1 := u1_
          have BX2 := u2_
          clear u1_ u2_
          have ES4 := Aside0.mk (show (if r3.1 = [105, 110] then r3.2 else stopS r3.2 s2.l.length) = s4 by rw [if_neg HIN.out]; exact Es4.out)
          go_wp2_with fail
          -- from 'in' on: two numbers
          go_wp2_with fail
          (with_reducible refine (number_P (w0 := w0) (st := s4) hs ?side1 ?side2).mono ?_)
          case side1 => (repeat (first | (with_reducible first | exact HI.out | apply IsP.alloc | apply IsP.drewN | apply IsP.drew | refine IsP.far ?_ NG1.out | refine IsP.far ?_ NG2.out) | exact HI.out))
          case side2 => (repeat (first | (with_reducible first | exact HB.out | apply below_alloc | apply pw_below_drewN | apply below_drew1 | refine below_set ?_ LB1.out | refine below_set ?_ LB2.out) | exact HB.out))
          rintro e w5 ⟨rfl, hi, hb, hk⟩
          generalize hE : numberS s4 = r5 at hi ⊢
          have Er5 := Aside0.mk hE
          clear hE
          have n0_ := Aside0.mk hi
          have n1_ := Aside0.mk hb
          have n2_ := Aside0.mk (KeepBut.trans (by (repeat (first | (with_reducible first | exact HK.out | apply keep_drewN | apply keep_drew | apply keep_alloc | refine keep_far ?_ LW1.out _ | refine keep_far ?_ LW2.out _) | exact HK.out))) hk (Or.inl rfl))
          clear HI HB HK
          have HI := n0_
          have HB := n1_
          have HK := n2_
          clear n0_ n1_ n2_ hi hb
          -- the two blocks of the call's own, behind a call
          have u1_ := Aside0.mk (show w5.heap[w.heap.size]? = some (.cells zPr 46 (0, 0)) from (hk.2 _ (by have := blk_lt BX1.out; exact this) (by have := NG1.out; omega) (by simp)).trans BX1.out)
          have u2_ := Aside0.mk (show w5.heap[w1.heap.size]? = some (.cells #[.string ⟨r1.1.toArray⟩, .int .i64 0, .int .i64 0, .int .i64 0, .string ⟨#[]⟩] 46 (0, 0)) from (hk.2 _ (by have := blk_lt BX2.out; exact this) (by have := NG2.out; omega) (by simp)).trans BX2.out)
          clear BX1 BX2 hk
          have BX1 := u1_
          have BX2 := u2_
          clear u1_ u2_
          have hx20 := blk_cell BX2.out 0
          have hx21 := blk_cell BX2.out 1
          have hx22 := blk_cell BX2.out 2
          have hx23 := blk_cell BX2.out 3
          have hx24 := blk_cell BX2.out 4
          have hy20 := blk_frozen BX2.out 0
          have hy21 := blk_frozen BX2.out 1
          have hy22 := blk_frozen BX2.out 2
          have hy23 := blk_frozen BX2.out 3
          have hy24 := blk_frozen BX2.out 4
          go_wp2_with fail
          clear hx20 hx21 hx22 hx23 hx24 hy20 hy21 hy22 hy23 hy24
          have u2_ := Aside0.mk (show ((w5.setCell ⟨w1.heap.size, 1, none⟩ (.int .i64 1)).setCell ⟨w1.heap.size, 2, none⟩ (.int .i64 r5.1)).heap[w1.heap.size]? = some (.cells #[.string ⟨r1.1.toArray⟩, .int .i64 1, .int .i64 r5.1, .int .i64 0, .string ⟨#[]⟩] 46 (0, 0)) by simpa using blk_set (blk_set BX2.out 1 (.int .i64 1)) 2 (.int .i64 r5.1))
          have u1_ := Aside0.mk (show ((w5.setCell ⟨w1.heap.size, 1, none⟩ (.int .i64 1)).setCell ⟨w1.heap.size, 2, none⟩ (.int .i64 r5.1)).heap[w.heap.size]? = some (.cells zPr 46 (0, 0)) from blk_far (blk_far BX1.out (p := ⟨w1.heap.size, 1, none⟩) (by have := HS1.out; show w.heap.size ≠ w1.heap.size; omega) _) (p := ⟨w1.heap.size, 2, none⟩) (by have := HS1.out; show w.heap.size ≠ w1.heap.size; omega) _)
          clear BX1 BX2
          have BX1 := u1_
          have BX2 := u2_
          clear u1_ u2_
          go_wp2_with fail
          (with_reducible refine (mark_P (w0 := w0) (st := r5.2) ⟨#[46, 46]⟩ (by decide) hs ?side1 ?side2).mono ?_)
          case side1 => (repeat (first | (with_reducible first | exact HI.out | apply IsP.alloc | apply IsP.drewN | apply IsP.drew | refine IsP.far ?_ NG1.out | refine IsP.far ?_ NG2.out) | exact HI.out))
          case side2 => (repeat (first | (with_reducible first | exact HB.out | apply below_alloc | apply pw_below_drewN | apply below_drew1 | refine below_set ?_ LB1.out | refine below_set ?_ LB2.out) | exact HB.out))
          rintro e w6 ⟨rfl, hi, hb, hk⟩
          generalize hE : markS (bytes ⟨#[46, 46]⟩) r5.2 = s6 at hi ⊢
          have Es6 := Aside0.mk hE
          clear hE
          have n0_ := Aside0.mk hi
          have n1_ := Aside0.mk hb
          have n2_ := Aside0.mk (KeepBut.trans (by (repeat (first | (with_reducible first | exact HK.out | apply keep_drewN | apply keep_drew | apply keep_alloc | refine keep_far ?_ LW1.out _ | refine keep_far ?_ LW2.out _) | exact HK.out))) hk (Or.inl rfl))
          clear HI HB HK
          have HI := n0_
          have HB := n1_
          have HK := n2_
          clear n0_ n1_ n2_ hi hb
          -- the two blocks of the call's own, behind a call
          have u1_ := Aside0.mk (show w6.heap[w.heap.size]? = some (.cells zPr 46 (0, 0)) from (hk.2 _ (by have := blk_lt BX1.out; exact this) (by have := NG1.out; omega) (by simp)).trans BX1.out)
          have u2_ := Aside0.mk (show w6.heap[w1.heap.size]? = some (.cells #[.string ⟨r1.1.toArray⟩, .int .i64 1, .int .i64 r5.1, .int .i64 0, .string ⟨#[]⟩] 46 (0, 0)) from (hk.2 _ (by have := blk_lt BX2.out; exact this) (by have := NG2.out; omega) (by simp)).trans BX2.out)
          clear BX1 BX2 hk
          have BX1 := u1_
          have BX2 := u2_
          clear u1_ u2_
          go_wp2_with fail
          (with_reducible refine (number_P (w0 := w0) (st := s6) hs ?side1 ?side2).mono ?_)
          case side1 => (repeat (first | (with_reducible first | exact HI.out | apply IsP.alloc | apply IsP.drewN | apply IsP.drew | refine IsP.far ?_ NG1.out | refine IsP.far ?_ NG2.out) | exact HI.out))
          case side2 => (repeat (first | (with_reducible first | exact HB.out | apply below_alloc | apply pw_below_drewN | apply below_drew1 | refine below_set ?_ LB1.out | refine below_set ?_ LB2.out) | exact HB.out))
          rintro e w7 ⟨rfl, hi, hb, hk⟩
          generalize hE : numberS s6 = r7 at hi ⊢
          have Er7 := Aside0.mk hE
          clear hE
          have n0_ := Aside0.mk hi
          have n1_ := Aside0.mk hb
          have n2_ := Aside0.mk (KeepBut.trans (by (repeat (first | (with_reducible first | exact HK.out | apply keep_drewN | apply keep_drew | apply keep_alloc | refine keep_far ?_ LW1.out _ | refine keep_far ?_ LW2.out _) | exact HK.out))) hk (Or.inl rfl))
          clear HI HB HK
          have HI := n0_
          have HB := n1_
          have HK := n2_
          clear n0_ n1_ n2_ hi hb
          -- the two blocks of the call's own, behind a call
          have u1_ := Aside0.mk (show w7.heap[w.heap.size]? = some (.cells zPr 46 (0, 0)) from (hk.2 _ (by have := blk_lt BX1.out; exact this) (by have := NG1.out; omega) (by simp)).trans BX1.out)
          have u2_ := Aside0.mk (show w7.heap[w1.heap.size]? = some (.cells #[.string ⟨r1.1.toArray⟩, .int .i64 1, .int .i64 r5.1, .int .i64 0, .string ⟨#[]⟩] 46 (0, 0)) from (hk.2 _ (by have := blk_lt BX2.out; exact this) (by have := NG2.out; omega) (by simp)).trans BX2.out)
          clear BX1 BX2 hk
          have BX1 := u1_
          have BX2 := u2_
          clear u1_ u2_
          have hx20 := blk_cell BX2.out 0
          have hx21 := blk_cell BX2.out 1
          have hx22 := blk_cell BX2.out 2
          have hx23 := blk_cell BX2.out 3
          have hx24 := blk_cell BX2.out 4
          have hy20 := blk_frozen BX2.out 0
          have hy21 := blk_frozen BX2.out 1
          have hy22 := blk_frozen BX2.out 2
          have hy23 := blk_frozen BX2.out 3
          have hy24 := blk_frozen BX2.out 4
          have hx10 := (blk_cell BX1.out 0).trans (show zPr[0]? = some (.string ⟨#[]⟩) from rfl)
          have hx11 := (blk_cell BX1.out 1).trans (show zPr[1]? = some (.int .i64 0) from rfl)
          have hx12 := (blk_cell BX1.out 2).trans (show zPr[2]? = some (.int .i64 0) from rfl)
          have hx13 := (blk_cell BX1.out 3).trans (show zPr[3]? = some (.int .i64 0) from rfl)
          have hx14 := (blk_cell BX1.out 4).trans (show zPr[4]? = some (.string ⟨#[]⟩) from rfl)
          have hy10 := blk_frozen BX1.out 0
          have hy11 := blk_frozen BX1.out 1
          have hy12 := blk_frozen BX1.out 2
          have hy13 := blk_frozen BX1.out 3
          have hy14 := blk_frozen BX1.out 4
          have hne1 : ¬ (w.heap.size = w1.heap.size) := by have := HS1.out; omega
          have hne2 : ¬ (w1.heap.size = w.heap.size) := by have := HS1.out; omega
          go_wp2
          refine bodyPost_ret (v := prV ⟨r1.1, 1, r5.1, r7.1, []⟩) ?_ rfl ?_
          · simp [results, Tryd.results33, go_sem, prV, hne1, hne2, hx10, hx11, hx12, hx13, hx14]
          · (rw [show predS st = (⟨r1.1, 1, r5.1, r7.1, []⟩, r7.2) from by unfold predS; simp only [Er1.out, Es2.out]; rw [if_neg (by rw [HL2.out]; simpa using H61.out), if_neg (by rw [HL2.out]; simpa using H94.out)]; unfold inS; simp only [Er3.out, ES4.out, Er5.out]; rw [show markS [46, 46] r5.2 = s6 from Es6.out, Er7.out]]; exact ⟨rfl, by (repeat (first | (with_reducible first | exact HI.out | apply IsP.alloc | apply IsP.drewN | apply IsP.drew | refine IsP.far ?_ NG1.out | refine IsP.far ?_ NG2.out) | exact HI.out)), by (repeat (first | (with_reducible first | exact HB.out | apply below_alloc | apply pw_below_drewN | apply below_drew1 | refine below_set ?_ LB1.out | refine below_set ?_ LB2.out) | exact HB.out)), by (repeat (first | (with_reducible first | exact HK.out | apply keep_drewN | apply keep_drew | apply keep_alloc | refine keep_far ?_ LW1.out _ | refine keep_far ?_ LW2.out _) | exact HK.out))⟩)
end
end Go.Proofs.YthaapijjjgkacaaDoor.Mine
end
section
/-
  The filter parser as plain functions, more: what is left shrinks; the loop's step.
-/
namespace Go.Proofs.YthaapijjjgkacaaDoor.Mine
theorem predS_le {st : St} (h : st.bad = none) : (predS st).2.l.length ≤ st.l.length := (predS_ok (w := st.l) ⟨List.suffix_refl _, fun n hn => by rw [h] at hn; cases hn⟩).1.length_le
theorem blanksS_le (st : St) : (blanksS st).l.length ≤ st.l.length := by
  unfold blanksS
  split
  · exact Nat.le_refl _
  · exact (skip_suf _).length_le
theorem wordL_lt {l : List UInt8} (h : (wordL l).2.bad = none) : (wordL l).2.l.length < l.length := by
  match l with
  | [] => simp [wordL] at h
  | c :: r =>
    by_cases hc : isL c = true
    · have := (dropWhile_suf isA r).length_le
      simp only [wordL, if_pos hc, List.length_cons]
      omega
    · simp [wordL, hc] at h
theorem wordS_lt {st : St} (h0 : st.bad = none) (h : (wordS st).2.bad = none) : (wordS st).2.l.length < st.l.length := by
  obtain ⟨l, b⟩ := st
  cases h0
  have h1 := wordL_lt (l := skip l) h
  have h2 := (skip_suf l).length_le
  show (wordL (skip l)).2.l.length < l.length
  omega
/-- 'and' behind a predicate. -/
def andS (b : St) : St := if (wordS b).1 = [97, 110, 100] then (wordS b).2 else stopS (wordS b).2 b.l.length
theorem andS_ok {w : List UInt8} {st : St} (h : st.ok w) : (andS st).ok w := by
  unfold andS
  split
  · exact wordS_ok h
  · exact stopS_ok (wordS_ok h) h.le
theorem stopS_none {st : St} {n : Nat} (h : (stopS st n).bad = none) : False := by
  unfold stopS at h
  split at h
  · rename_i hb
    rw [hb] at h
    cases h
  · simp at h
theorem andS_lt {st : St} (h0 : st.bad = none) (h : (andS st).bad = none) : (andS st).l.length < st.l.length := by
  unfold andS at h ⊢
  split
  · rename_i hw
    rw [if_pos hw] at h
    exact wordS_lt h0 h
  · rename_i hw
    rw [if_neg hw] at h
    exact (stopS_none h).elim
theorem parseS_succ (k : Nat) (st : St) (acc : List Pr) : parseS (k + 1) st acc =
    match (blanksS (predS st).2).bad with
    | some n => .inr n
    | none => if (blanksS (predS st).2).l = [] then .inl (acc ++ [(predS st).1]) else
      match (andS (blanksS (predS st).2)).bad with
      | some n => .inr n
      | none => parseS k (andS (blanksS (predS st).2)) (acc ++ [(predS st).1]) := rfl
end Go.Proofs.YthaapijjjgkacaaDoor.Mine
end
section
/-
  The contract of filter.Parse: what it hands back is what the plain parser of Plain says. Condition: the text at most 1000 bytes.
-/
namespace Go.Proofs.YthaapijjjgkacaaDoor.Mine
open Go.RowKit Go.Proofs.YthaapijjjgkacaaDoorW.PrintWords Go.Proofs.YthaapijjjgkacaaDoorW.PrintLast Go.Proofs.YthaapijjjgkacaaDoorW.PrintMore
open Go.Proofs.YthaapijjjgkacaaDoor.PFilterReads

def toP (x : Pr) : S46 := ⟨⟨x.name.toArray⟩, x.op, x.lo, x.hi, ⟨x.str.toArray⟩⟩
/-- A fault in memory: where, the place, the code. -/
def IsFault (w : World) (b : Nat) (wh : ByteArray) (at_ c : Int) : Prop := w.heap[b]? = some (.cells #[.string wh, .int .i64 at_, .iface 35 (.int .i64 c)] 71 (0, 0))
def sFilter : ByteArray := ⟨#[102, 105, 108, 116, 101, 114]⟩
/-- What a text is: its predicates, or the place and the code. -/
def parseR (s : ByteArray) : List Pr ⊕ (Int × Int) :=
  if 300 < s.size then .inr (0, 1) else
  match parseS (s.size + 1) ⟨bytes s, none⟩ [] with
  | .inl xs => .inl xs
  | .inr n => .inr (((s.size - n : Nat) : Int), 2)
def ParseOk (w : World) (xs : List Pr) (e : Ending) (w' : World) : Prop := ∃ v, e = .returned (.tuple #[v, .nilIface]) ∧ Kd.R k46 46 w' w.heap.size (fun _ => True) v (xs.map toP) ∧ Below w.heap.size w w'
def ParseNo (w : World) (at_ c : Int) (e : Ending) (w' : World) : Prop := ∃ b, w.heap.size ≤ b ∧ e = .returned (.tuple #[.slice none 0 0, .iface 67 (.pointer (some ⟨b, 0, none⟩))]) ∧ IsFault w' b sFilter at_ c ∧ Below w.heap.size w w'
def ParsePost (w : World) (s : ByteArray) (e : Ending) (w' : World) : Prop :=
  match parseR s with
  | .inl xs => ParseOk w xs e w'
  | .inr (at_, c) => ParseNo w at_ c e w'

theorem info46 : (Tryd.prog.info? 46).map (fun i => (i.zero, i.size, i.bytes)) = some (some (.agg #[(.string ⟨#[]⟩), (.int .i64 0), (.int .i64 0), (.int .i64 0), (.string ⟨#[]⟩)]), 5, 56) := by kernel_rfl
theorem R_call {α : Type} {d : Kd α} {e : Nat} {w0 W W' : World} {g base : Nat} {s : ByteArray} {st : St} {v : Value} {xs : List α} (hi : IsP w0 W g s st) (ho : d.R e W base (fun _ => True) v xs) (ht : ∀ q, q ∈ e :: d.E → q ≠ 74) (hk : KeepBut W W' g none) : d.R e W' base (fun _ => True) v xs :=
  Kd.R_mono (Kd.R_keep (IsS74.apart hi.2 ho ht) hk (fun _ h => h.2)) (fun _ _ => trivial)
theorem IsP.grown {w0 W W1 : World} {g : Nat} {s : ByteArray} {st : St} {row : Option Nat} (h : IsP w0 W g s st) (hg : W.grownBy W1 row) (hn : some g ≠ row) : IsP w0 W1 g s st := ⟨h.1, h.2.grown hg hn⟩
theorem rel_next {s : ByteArray} {R : List Pr ⊕ Nat} {gk : Nat} {l : List UInt8} {acc : List Pr} {x : Pr} {st4 : St} {wr w : World} {v : Value}
    (hF : R = match st4.bad with | some n => .inr n | none => parseS (gk - 2) st4 (acc ++ [x])) (hlt : st4.bad = none → st4.l.length < l.length) (hl : acc.length + l.length ≤ s.size) (hk : l.length + 1 < gk)
    (ho : Kd.R k46 46 wr w.heap.size (fun _ => True) v ((acc ++ [x]).map toP)) :
    (st4.bad = none ∧ st4.l.length + 1 < gk - 1 ∧ parseS (gk - 1 - 1) st4 (acc ++ [x]) = R ∧ (acc ++ [x]).length + st4.l.length ≤ s.size ∧ Kd.R k46 46 wr w.heap.size (fun _ => True) v ((acc ++ [x]).map toP)) ∨ (∃ m, st4.bad = some m ∧ 0 < gk - 1 ∧ R = .inr m) := by
  cases hb : st4.bad with
  | none =>
    rw [hb] at hF
    have := hlt hb
    exact Or.inl ⟨rfl, by omega, by rw [show gk - 1 - 1 = gk - 2 by omega]; exact hF.symm, by simp; omega, ho⟩
  | some m =>
    rw [hb] at hF
    exact Or.inr ⟨m, rfl, by omega, hF⟩
set_option maxHeartbeats 1000000 in
set_option maxRecDepth 100000 in
theorem parse_long (s : ByteArray) (w : World) (hs : s.size ≤ 1000) (h : 300 < s.size) : Calls Tryd.prog 13 #[.string s] w (ParsePost w s) := by
  have hr : parseR s = .inr (0, 1) := by unfold parseR; rw [if_pos h]
  have HR := Aside0.mk hr
  clear hr
  have h1 := decide_eq_true (show (300 : Int) < (s.size : Int) by omega)
  go_enter Tryd.func13, Tryd.ntmps13
  go_wp2
  go_ret2
  unfold ParsePost
  rw [HR.out]
  exact ⟨w.heap.size, Nat.le_refl _, rfl, heap_alloc_new w _, (Below.refl _ _).alloc (Nat.le_refl _) _⟩

set_option maxHeartbeats 4000000 in
set_option maxRecDepth 100000 in
theorem parse_any (s : ByteArray) (w : World) (h : s.size ≤ 300) : Calls Tryd.prog 13 #[.string s] w (ParsePost w s) := by
  have hs : s.size ≤ 1000 := by omega
  have h1 := decide_eq_false (show ¬ (300 : Int) < (s.size : Int) by omega)
  have HR := Aside0.mk (show parseR s = match parseS (s.size + 1) ⟨bytes s, none⟩ [] with | .inl xs => .inl xs | .inr n => .inr (((s.size - n : Nat) : Int), 2) by unfold parseR; rw [if_neg (by omega)])
  generalize hR : parseS (s.size + 1) ⟨bytes s, none⟩ [] = R at HR
  have ER := Aside0.mk hR
  clear hR
  go_enter Tryd.func13, Tryd.ntmps13
  go_wp2
  go_loopg [5, 6] (s.size + 2) (fun n v5 _ wr => ∃ (acc : List Pr) (st : St), Aside0 ((st.bad = none ∧ st.l.length + 1 < n ∧ parseS (n - 1) st acc = R ∧ acc.length + st.l.length ≤ s.size ∧ Kd.R k46 46 wr w.heap.size (fun _ => True) v5 (acc.map toP)) ∨ (∃ m, st.bad = some m ∧ 0 < n ∧ R = .inr m)) ∧ Aside0 (IsP w wr w.heap.size s st) ∧ Aside0 (Below w.heap.size w wr))
  case atStart => exact ⟨[], ⟨bytes s, none⟩, ⟨Or.inl ⟨rfl, by show (bytes s).length + 1 < s.size + 2; rw [bytes_len]; omega, ER.out, by show 0 + (bytes s).length ≤ s.size; rw [bytes_len]; omega, Kd.R_nil _ _ _ _ _⟩⟩, ⟨⟨⟨List.suffix_refl _, fun n hn => by cases hn⟩, by rw [show s.size - (bytes s).length = 0 by rw [bytes_len]; omega]; exact IsS74.new w w s 0 (-1) (Below.refl _ _)⟩⟩, ⟨(Below.refl _ _).alloc (Nat.le_refl _) _⟩⟩
  case round =>
    obtain ⟨acc, st, HA, HI, HB⟩ := hrel
    rcases HA.out with ⟨hbad, hk1, hp, hl, ho⟩ | ⟨m, hbad, hk0, hp⟩
    · obtain ⟨l, b⟩ := st
      cases hbad
      have HO := Aside0.mk ho
      have HA1 := Aside0.mk hl
      have HP := Aside0.mk hp
      have HKL := Aside0.mk hk1
      clear hl hp ho HA hk1
      obtain ⟨hok, HG, hg⟩ := HI.out
      have HOK := Aside0.mk hok
      have hc0 := cellS74_0 HG
      have hc1 := cellS74_1 HG
      have hc2 := cellS74_2 HG
      have hf0 := blk_frozen HG 0
      have hf1 := blk_frozen HG 1
      have hf2 := blk_frozen HG 2
      clear HG hg hok
      have hc2' : wr.cell? ⟨w.heap.size, 2, none⟩ = some (.int .i64 (-1)) := hc2
      clear hc2
      go_wp2_with fail
      (with_reducible refine (pred_P (w0 := w) (st := ⟨l, none⟩) hs ?side1 ?side2).mono ?_)
      case side1 => (repeat (first | (with_reducible first | exact HI.out | apply IsP.alloc | apply IsP.drewN | apply IsP.drew) | exact HI.out))
      case side2 => (repeat (first | (with_reducible first | exact HB.out | apply below_alloc | apply pw_below_drewN | apply below_drew1) | exact HB.out))
      rintro e w1 ⟨rfl, hi, hb, hk⟩
      generalize hE : predS ⟨l, none⟩ = r1 at hi ⊢
      have Er1 := Aside0.mk hE
      clear hE
      have n0_ := Aside0.mk hi
      have n1_ := Aside0.mk hb
      have n2_ := Aside0.mk (R_call (by (repeat (first | (with_reducible first | exact HI.out | apply IsP.alloc | apply IsP.drewN | apply IsP.drew) | exact HI.out))) (by (with_reducible repeat (first | apply Kd.R_alloc | apply Kd.R_drewN | apply Kd.R_drew)); exact HO.out) (by decide) hk)
      clear HI HB HO
      have HI := n0_
      have HB := n1_
      have HO := n2_
      clear n0_ n1_ n2_ hi hb hk
      clear hc0 hc1 hc2' hf0 hf1 hf2
      unfold prV
      go_wp2_with ((with_reducible refine gate_builtin (b := .append) (xs := #[.tmp 22, .tmp 25]) rfl ?_); at_builtin; refine Kd.R_append k46 (w0 := w) w.heap.size rfl (.tmp 22) (.tmp 25) 26 46 (.agg #[(.string ⟨#[]⟩), (.int .i64 0), (.int .i64 0), (.int .i64 0), (.string ⟨#[]⟩)]) 56 rfl Tryd.underlying26 info46 rfl (by decide) (by omega) u5 (acc.map toP) (toP r1.1) [.string ⟨r1.1.name.toArray⟩, .int .i64 r1.1.op, .int .i64 r1.1.lo, .int .i64 r1.1.hi, .string ⟨r1.1.str.toArray⟩] (fun _ => True) (fun _ => False) rfl ?aX ?aP (fun _ hk => hk.elim) ?aF ?aO ?aB ?aS ?aL ?_; (case aX => first | rfl | (go_simp; done) | (go_simp; rfl)); (case aP => exact k46_mkM _ _ _ (toP r1.1)); (case aB => (repeat (first | (with_reducible first | exact HB.out | apply below_alloc | apply pw_below_drewN | apply below_drew1) | exact HB.out))); (case aF => exact (fun _ _ => trivial)); (case aO => (with_reducible repeat (first | apply Kd.R_alloc | apply Kd.R_drewN | apply Kd.R_drew)); exact HO.out); (case aS => exact below_size (by (repeat (first | (with_reducible first | exact HB.out | apply below_alloc | apply pw_below_drewN | apply below_drew1) | exact HB.out)))); (case aL => have := HA1.out; simp; omega); intro v5 w5 ho hb hg hat; rw [show acc.map toP ++ [toP r1.1] = (acc ++ [r1.1]).map toP by simp] at ho; have n0_ := Aside0.mk (IsP.grown (by (repeat (first | (with_reducible first | exact HI.out | apply IsP.alloc | apply IsP.drewN | apply IsP.drew) | exact HI.out))) hg (IsS74.own_ne HI.out.2 HO.out (by decide))); have n1_ := Aside0.mk hb; have n2_ := Aside0.mk ho; clear HI HB HO ho hb hg hat; have HI := n0_; have HB := n1_; have HO := n2_; clear n0_ n1_ n2_)
      go_wp2_with fail
      (with_reducible refine (blanks_P (w0 := w) (st := r1.2) hs ?side1 ?side2).mono ?_)
      case side1 => (repeat (first | (with_reducible first | exact HI.out | apply IsP.alloc | apply IsP.drewN | apply IsP.drew) | exact HI.out))
      case side2 => (repeat (first | (with_reducible first | exact HB.out | apply below_alloc | apply pw_below_drewN | apply below_drew1) | exact HB.out))
      rintro e w6 ⟨rfl, hi, hb, hk⟩
      generalize hE : blanksS r1.2 = s2 at hi ⊢
      have Es2 := Aside0.mk hE
      clear hE
      have n0_ := Aside0.mk hi
      have n1_ := Aside0.mk hb
      have n2_ := Aside0.mk (R_call (by (repeat (first | (with_reducible first | exact HI.out | apply IsP.alloc | apply IsP.drewN | apply IsP.drew) | exact HI.out))) (by (with_reducible repeat (first | apply Kd.R_alloc | apply Kd.R_drewN | apply Kd.R_drew)); exact HO.out) (by decide) hk)
      clear HI HB HO
      have HI := n0_
      have HB := n1_
      have HO := n2_
      clear n0_ n1_ n2_ hi hb hk
      have hle := Nat.le_trans (blanksS_le r1.2) (by rw [← Er1.out]; exact predS_le (st := ⟨l, none⟩) rfl)
      rw [Es2.out] at hle
      have HLE := Aside0.mk hle
      clear hle
      have HST := Aside0.mk (show R = match s2.bad with | some n => .inr n | none => if s2.l = [] then .inl (acc ++ [r1.1]) else match (andS s2).bad with | some n => .inr n | none => parseS (gk - 2) (andS s2) (acc ++ [r1.1]) by
        have h5 := HP.out
        obtain ⟨kk, hkk⟩ : ∃ kk, gk = kk + 2 := ⟨gk - 2, by have := HKL.out; omega⟩
        rw [hkk, show kk + 2 - 1 = kk + 1 by omega, parseS_succ, Er1.out, Es2.out] at h5
        rw [hkk, show kk + 2 - 2 = kk by omega]
        exact h5.symm)
      clear HP Er1 Es2
      obtain ⟨hok, HG, hg⟩ := HI.out
      have HOK := Aside0.mk hok
      have hc0 := cellS74_0 HG
      have hc1 := cellS74_1 HG
      have hc2 := cellS74_2 HG
      have hf0 := blk_frozen HG 0
      have hf1 := blk_frozen HG 1
      have hf2 := blk_frozen HG 2
      clear HG hg hok
      obtain ⟨l2, b2⟩ := s2
      obtain ⟨bd, hbd⟩ : ∃ bd, badI s b2 = bd := ⟨_, rfl⟩
      have hc2' : w6.cell? ⟨w.heap.size, 2, none⟩ = some (.int .i64 bd) := by rw [← hbd]; exact hc2
      have hc1' : w6.cell? ⟨w.heap.size, 1, none⟩ = some (.int .i64 ((s.size - l2.length : Nat) : Int)) := hc1
      clear hc2 hc1
      cases hb2 : b2 with
      | some m =>
        have q1 := decide_eq_false (show ¬ (bd < 0) by rw [← hbd, hb2]; have := badI_nn s m; omega)
        have HFIN := Aside0.mk (show R = match (andS ⟨l2, b2⟩).bad with | some n => .inr n | none => parseS (gk - 2) (andS ⟨l2, b2⟩) (acc ++ [r1.1]) by
          have h5 := HST.out
          have h6 : andS ⟨l2, b2⟩ = ⟨l2, some m⟩ := by subst hb2; unfold andS; rw [wordS_bad rfl, if_neg (by simp), stopS_bad rfl]
          rw [h6]
          rw [hb2] at h5
          exact h5)
        have HLT := Aside0.mk (show (andS ⟨l2, b2⟩).bad = none → (andS ⟨l2, b2⟩).l.length < l.length by
          have h6 : andS ⟨l2, b2⟩ = ⟨l2, some m⟩ := by subst hb2; unfold andS; rw [wordS_bad rfl, if_neg (by simp), stopS_bad rfl]
          rw [h6]
          intro h7
          cases h7)
        clear hbd hb2
        go_wp2_with fail
        repeat (go_quiet (fail); try go_wp2_with fail)
        go_wp2_with fail
        (with_reducible refine (word_P (w0 := w) (st := ⟨l2, b2⟩) hs ?side1 ?side2).mono ?_)
        case side1 => (repeat (first | (with_reducible first | exact HI.out | apply IsP.alloc | apply IsP.drewN | apply IsP.drew) | exact HI.out))
        case side2 => (repeat (first | (with_reducible first | exact HB.out | apply below_alloc | apply pw_below_drewN | apply below_drew1) | exact HB.out))
        rintro e w7 ⟨rfl, hi, hb, hk⟩
        generalize hE : wordS ⟨l2, b2⟩ = r3 at hi ⊢
        have Er3 := Aside0.mk hE
        clear hE
        have n0_ := Aside0.mk hi
        have n1_ := Aside0.mk hb
        have n2_ := Aside0.mk (R_call (by (repeat (first | (with_reducible first | exact HI.out | apply IsP.alloc | apply IsP.drewN | apply IsP.drew) | exact HI.out))) (by (with_reducible repeat (first | apply Kd.R_alloc | apply Kd.R_drewN | apply Kd.R_drew)); exact HO.out) (by decide) hk)
        clear HI HB HO
        have HI := n0_
        have HB := n1_
        have HO := n2_
        clear n0_ n1_ n2_ hi hb hk
        by_cases hand : r3.1 = [97, 110, 100]
        · have t1 : (r3.1 == ([97, 110, 100] : List UInt8)) = true := by simpa using hand
          have HAND := Aside0.mk (show r3.1 = [97, 110, 100] from hand)
          clear hand
          go_wp2_with fail
          go_roundg (gk - 1)
          case measure => have := HKL.out; omega
          case rel => exact ⟨acc ++ [r1.1], r3.2, ⟨rel_next (l := l) (by rw [← show andS ⟨l2, b2⟩ = r3.2 from by unfold andS; rw [Er3.out, if_pos HAND.out]]; exact HFIN.out) (by rw [← show andS ⟨l2, b2⟩ = r3.2 from by unfold andS; rw [Er3.out, if_pos HAND.out]]; exact HLT.out) HA1.out HKL.out (by (with_reducible repeat (first | apply Kd.R_alloc | apply Kd.R_drewN | apply Kd.R_drew)); exact HO.out)⟩, ⟨by (repeat (first | (with_reducible first | exact HI.out | apply IsP.alloc | apply IsP.drewN | apply IsP.drew) | exact HI.out))⟩, ⟨by (repeat (first | (with_reducible first | exact HB.out | apply below_alloc | apply pw_below_drewN | apply below_drew1) | exact HB.out))⟩⟩
        · have t1 : (r3.1 == ([97, 110, 100] : List UInt8)) = false := by simpa using hand
          have HAND := Aside0.mk (show ¬ r3.1 = [97, 110, 100] from hand)
          clear hand
          go_wp2_with fail
          go_wp2_with fail
          (with_reducible refine (stop_P (w0 := w) (st := r3.2) l2.length (P_le HOK.out) ?side1 ?side2).mono ?_)
          case side1 => (repeat (first | (with_reducible first | exact HI.out | apply IsP.alloc | apply IsP.drewN | apply IsP.drew) | exact HI.out))
          case side2 => (repeat (first | (with_reducible first | exact HB.out | apply below_alloc | apply pw_below_drewN | apply below_drew1) | exact HB.out))
          rintro e w8 ⟨rfl, hi, hb, hk⟩
          generalize hE : stopS r3.2 l2.length = s4 at hi ⊢
          have Es4 := Aside0.mk hE
          clear hE
          have n0_ := Aside0.mk hi
          have n1_ := Aside0.mk hb
          have n2_ := Aside0.mk (R_call (by (repeat (first | (with_reducible first | exact HI.out | apply IsP.alloc | apply IsP.drewN | apply IsP.drew) | exact HI.out))) (by (with_reducible repeat (first | apply Kd.R_alloc | apply Kd.R_drewN | apply Kd.R_drew)); exact HO.out) (by decide) hk)
          clear HI HB HO
          have HI := n0_
          have HB := n1_
          have HO := n2_
          clear n0_ n1_ n2_ hi hb hk
          go_wp2_with fail
          go_roundg (gk - 1)
          case measure => have := HKL.out; omega
          case rel => exact ⟨acc ++ [r1.1], s4, ⟨rel_next (l := l) (by rw [← show andS ⟨l2, b2⟩ = s4 from by unfold andS; rw [Er3.out, if_neg HAND.out]; exact Es4.out]; exact HFIN.out) (by rw [← show andS ⟨l2, b2⟩ = s4 from by unfold andS; rw [Er3.out, if_neg HAND.out]; exact Es4.out]; exact HLT.out) HA1.out HKL.out (by (with_reducible repeat (first | apply Kd.R_alloc | apply Kd.R_drewN | apply Kd.R_drew)); exact HO.out)⟩, ⟨by (repeat (first | (with_reducible first | exact HI.out | apply IsP.alloc | apply IsP.drewN | apply IsP.drew) | exact HI.out))⟩, ⟨by (repeat (first | (with_reducible first | exact HB.out | apply below_alloc | apply pw_below_drewN | apply below_drew1) | exact HB.out))⟩⟩
      | none =>
        have q1 := decide_eq_true (show bd < 0 by rw [← hbd, hb2]; show (-1 : Int) < 0; omega)
        have q2 := eq_true (show bd < 0 by rw [← hbd, hb2]; show (-1 : Int) < 0; omega)
        have hle2 := P_le HOK.out
        by_cases hl2 : l2 = []
        · subst hl2
          have HFIN := Aside0.mk (show R = .inl (acc ++ [r1.1]) by have h5 := HST.out; rw [hb2] at h5; exact h5)
          have q3 : (((s.size - ([] : List UInt8).length : Nat) : Int) == (s.size : Int)) = true := by simp
          have q4 : (((s.size - ([] : List UInt8).length : Nat)) == (s.size)) = true := by simp
          clear hbd hb2
          go_wp2_with fail
          repeat (go_quiet (fail); try go_wp2_with fail)
          go_ret2
          unfold ParsePost
          rw [HR.out, HFIN.out]
          exact ⟨v5, rfl, by (with_reducible repeat (first | apply Kd.R_alloc | apply Kd.R_drewN | apply Kd.R_drew)); exact HO.out, by (repeat (first | (with_reducible first | exact HB.out | apply below_alloc | apply pw_below_drewN | apply below_drew1) | exact HB.out))⟩
        · have hpos : 0 < l2.length := List.length_pos_iff.mpr hl2
          have q3 : (((s.size - l2.length : Nat) : Int) == (s.size : Int)) = false := beq_eq_false_iff_ne.mpr (by have : l2.length ≤ s.size := hle2; omega)
          have q4 : (((s.size - l2.length : Nat)) == (s.size)) = false := beq_eq_false_iff_ne.mpr (by have : l2.length ≤ s.size := hle2; omega)
          have HFIN := Aside0.mk (show R = match (andS ⟨l2, b2⟩).bad with | some n => .inr n | none => parseS (gk - 2) (andS ⟨l2, b2⟩) (acc ++ [r1.1]) by
            have h5 := HST.out
            rw [hb2] at h5 ⊢
            simp only at h5
            rw [if_neg hl2] at h5
            exact h5)
          have HLT := Aside0.mk (show (andS ⟨l2, b2⟩).bad = none → (andS ⟨l2, b2⟩).l.length < l.length by
            intro h7
            have h8 := andS_lt (st := ⟨l2, b2⟩) hb2 h7
            have h9 : l2.length ≤ l.length := HLE.out
            exact Nat.lt_of_lt_of_le h8 h9)
          clear hbd hb2 hl2
          go_wp2_with fail
          repeat (go_quiet (fail); try go_wp2_with fail)
          go_wp2_with fail
          (with_reducible refine (word_P (w0 := w) (st := ⟨l2, b2⟩) hs ?side1 ?side2).mono ?_)
          case side1 => (repeat (first | (with_reducible first | exact HI.out | apply IsP.alloc | apply IsP.drewN | apply IsP.drew) | exact HI.out))
          case side2 => (repeat (first | (with_reducible first | exact HB.out | apply below_alloc | apply pw_below_drewN | apply below_drew1) | exact HB.out))
          rintro e w7 ⟨rfl, hi, hb, hk⟩
          generalize hE : wordS ⟨l2, b2⟩ = r3 at hi ⊢
          have Er3 := Aside0.mk hE
          clear hE
          have n0_ := Aside0.mk hi
          have n1_ := Aside0.mk hb
          have n2_ := Aside0.mk (R_call (by (repeat (first | (with_reducible first | exact HI.out | apply IsP.alloc | apply IsP.drewN | apply IsP.drew) | exact HI.out))) (by (with_reducible repeat (first | apply Kd.R_alloc | apply Kd.R_drewN | apply Kd.R_drew)); exact HO.out) (by decide) hk)
          clear HI HB HO
          have HI := n0_
          have HB := n1_
          have HO := n2_
          clear n0_ n1_ n2_ hi hb hk
          by_cases hand : r3.1 = [97, 110, 100]
          · have t1 : (r3.1 == ([97, 110, 100] : List UInt8)) = true := by simpa using hand
            have HAND := Aside0.mk (show r3.1 = [97, 110, 100] from hand)
            clear hand
            go_wp2_with fail
            go_roundg (gk - 1)
            case measure => have := HKL.out; omega
            case rel => exact ⟨acc ++ [r1.1], r3.2, ⟨rel_next (l := l) (by rw [← show andS ⟨l2, b2⟩ = r3.2 from by unfold andS; rw [Er3.out, if_pos HAND.out]]; exact HFIN.out) (by rw [← show andS ⟨l2, b2⟩ = r3.2 from by unfold andS; rw [Er3.out, if_pos HAND.out]]; exact HLT.out) HA1.out HKL.out (by (with_reducible repeat (first | apply Kd.R_alloc | apply Kd.R_drewN | apply Kd.R_drew)); exact HO.out)⟩, ⟨by (repeat (first | (with_reducible first | exact HI.out | apply IsP.alloc | apply IsP.drewN | apply IsP.drew) | exact HI.out))⟩, ⟨by (repeat (first | (with_reducible first | exact HB.out | apply below_alloc | apply pw_below_drewN | apply below_drew1) | exact HB.out))⟩⟩
          · have t1 : (r3.1 == ([97, 110, 100] : List UInt8)) = false := by simpa using hand
            have HAND := Aside0.mk (show ¬ r3.1 = [97, 110, 100] from hand)
            clear hand
            go_wp2_with fail
            go_wp2_with fail
            (with_reducible refine (stop_P (w0 := w) (st := r3.2) l2.length (P_le HOK.out) ?side1 ?side2).mono ?_)
            case side1 => (repeat (first | (with_reducible first | exact HI.out | apply IsP.alloc | apply IsP.drewN | apply IsP.drew) | exact HI.out))
            case side2 => (repeat (first | (with_reducible first | exact HB.out | apply below_alloc | apply pw_below_drewN | apply below_drew1) | exact HB.out))
            rintro e w8 ⟨rfl, hi, hb, hk⟩
            generalize hE : stopS r3.2 l2.length = s4 at hi ⊢
            have Es4 := Aside0.mk hE
            clear hE
            have n0_ := Aside0.mk hi
            have n1_ := Aside0.mk hb
            have n2_ := Aside0.mk (R_call (by (repeat (first | (with_reducible first | exact HI.out | apply IsP.alloc | apply IsP.drewN | apply IsP.drew) | exact HI.out))) (by (with_reducible repeat (first | apply Kd.R_alloc | apply Kd.R_drewN | apply Kd.R_drew)); exact HO.out) (by decide) hk)
            clear HI HB HO
            have HI := n0_
            have HB := n1_
            have HO := n2_
            clear n0_ n1_ n2_ hi hb hk
            go_wp2_with fail
            go_roundg (gk - 1)
            case measure => have := HKL.out; omega
            case rel => exact ⟨acc ++ [r1.1], s4, ⟨rel_next (l := l) (by rw [← show andS ⟨l2, b2⟩ = s4 from by unfold andS; rw [Er3.out, if_neg HAND.out]; exact Es4.out]; exact HFIN.out) (by rw [← show andS ⟨l2, b2⟩ = s4 from by unfold andS; rw [Er3.out, if_neg HAND.out]; exact Es4.out]; exact HLT.out) HA1.out HKL.out (by (with_reducible repeat (first | apply Kd.R_alloc | apply Kd.R_drewN | apply Kd.R_drew)); exact HO.out)⟩, ⟨by (repeat (first | (with_reducible first | exact HI.out | apply IsP.alloc | apply IsP.drewN | apply IsP.drew) | exact HI.out))⟩, ⟨by (repeat (first | (with_reducible first | exact HB.out | apply below_alloc | apply pw_below_drewN | apply below_drew1) | exact HB.out))⟩⟩
    · obtain ⟨l, b⟩ := st
      cases hbad
      have HP := Aside0.mk hp
      clear hp HA
      obtain ⟨hok, HG, hg⟩ := HI.out
      have HOK := Aside0.mk hok
      have hc0 := cellS74_0 HG
      have hc1 := cellS74_1 HG
      have hc2 := cellS74_2 HG
      have hf0 := blk_frozen HG 0
      have hf1 := blk_frozen HG 1
      have hf2 := blk_frozen HG 2
      clear HG hg hok
      have hc2' : wr.cell? ⟨w.heap.size, 2, none⟩ = some (.int .i64 ((s.size - m : Nat) : Int)) := hc2
      have q1 := decide_eq_false (show ¬ (((s.size - m : Nat) : Int) < 0) by omega)
      clear hc2
      go_wp2
      go_region
      all_goals (try go_wp2)
      go_ret2
      unfold ParsePost
      rw [HR.out, HP.out]
      exact ⟨wr.heap.size, below_size HB.out, rfl, heap_alloc_new wr _, by (repeat (first | (with_reducible first | exact HB.out | apply below_alloc | apply pw_below_drewN | apply below_drew1) | exact HB.out))⟩
end Go.Proofs.YthaapijjjgkacaaDoor.Mine
end
section
/-
  The reference's parser of filters, walked: blanks, bad, letter, digit, in terms of the plain states. Conditions: the text at most 1000 bytes.
-/
namespace Go.Proofs.YthaapijjjgkacaaDoor.Mine
open Go.RowKit Go.Proofs.YthaapijjjgkacaaDoorW.PrintWords Go.Proofs.YthaapijjjgkacaaDoorW.PrintLast Go.Proofs.YthaapijjjgkacaaDoorW.PrintMore
open Go.Proofs.YthaapijjjgkacaaDoor.PFilterReads
/-- A spot as Go has it. -/
def spotV (s : ByteArray) (i : Int) (b : Bool) : Value := .agg #[.string s, .int .i64 i, .bool b]
def spotC (s : ByteArray) (i : Int) (b : Bool) : Obj := .cells #[.string s, .int .i64 i, .bool b] 83 (0, 0)
theorem rbad_calls (s : ByteArray) (i j : Int) (b : Bool) (w : World) :
    Calls Tryd.prog 69 #[spotV s i b, .int .i64 j] w fun e w' => e = .returned (spotV s (if b then i else j) true) ∧ Below w.heap.size w w' := by
  unfold spotV
  cases b with
  | false =>
    go_enter Tryd.func69, Tryd.ntmps69
    go_wp2
    refine bodyPost_ret (v := .agg #[.string s, .int .i64 j, .bool true]) (by simp [results, Tryd.results69, go_sem]) rfl ⟨rfl, below_alloc (below_alloc (Below.refl _ _) _) _⟩
  | true =>
    go_enter Tryd.func69, Tryd.ntmps69
    go_wp2
    refine bodyPost_ret (v := .agg #[.string s, .int .i64 i, .bool true]) (by simp [results, Tryd.results69, go_sem]) rfl ⟨rfl, below_alloc (below_alloc (Below.refl _ _) _) _⟩
theorem rletter_calls (c : UInt8) (w : World) : Calls Tryd.prog 71 #[.int .u8 (c.toNat : Int)] w fun e w' => e = .returned (.bool (isL c)) ∧ w = w' := by
  rw [← isLet_u]
  generalize (c.toNat : Int) = n
  unfold isLet
  by_cases h1 : 97 ≤ n
  · by_cases h2 : n ≤ 122
    · go_enter Tryd.func71, Tryd.ntmps71
      go_wp2
      go_ret
      exact ⟨by simp [h1, h2], rfl⟩
    · go_enter Tryd.func71, Tryd.ntmps71
      go_wp2
      go_ret
      exact ⟨by simp [h1, h2], rfl⟩
  · go_enter Tryd.func71, Tryd.ntmps71
    go_wp2
    go_ret
    exact ⟨by rw [show (decide (97 ≤ n) && decide (n ≤ 122)) = false by rw [decide_eq_false (by omega : ¬ _)]; rfl]; rfl, rfl⟩
theorem rdigit_calls (c : UInt8) (w : World) : Calls Tryd.prog 72 #[.int .u8 (c.toNat : Int)] w fun e w' => e = .returned (.bool (isD c)) ∧ w = w' := by
  rw [← isDig_u]
  generalize (c.toNat : Int) = n
  unfold isDig
  by_cases h1 : 48 ≤ n
  · by_cases h2 : n ≤ 57
    · go_enter Tryd.func72, Tryd.ntmps72
      go_wp2
      go_ret
      exact ⟨by simp [h1, h2], rfl⟩
    · go_enter Tryd.func72, Tryd.ntmps72
      go_wp2
      go_ret
      exact ⟨by simp [h1, h2], rfl⟩
  · go_enter Tryd.func72, Tryd.ntmps72
    go_wp2
    go_ret
    exact ⟨by rw [show (decide (48 ≤ n) && decide (n ≤ 57)) = false by rw [decide_eq_false (by omega : ¬ _)]; rfl]; rfl, rfl⟩
/-- Where a spot stands. -/
def spI (s : ByteArray) (st : St) : Int := ((s.size - (st.bad.getD st.l.length) : Nat) : Int)
def stV (s : ByteArray) (st : St) : Value := spotV s (spI s st) st.bad.isSome
set_option maxHeartbeats 1000000 in
set_option maxRecDepth 100000 in
theorem rblanks_calls (s : ByteArray) (st : St) (w : World) (hs : s.size ≤ 1000) (hok : st.ok (bytes s)) :
    Calls Tryd.prog 40 #[stV s st] w fun e w' => e = .returned (stV s (blanksS st)) ∧ Below w.heap.size w w' := by
  obtain ⟨l, bad⟩ := st
  cases bad with
  | some n =>
    show Calls _ _ #[spotV s ((s.size - n : Nat) : Int) true] w fun e w' => e = .returned (spotV s ((s.size - n : Nat) : Int) true) ∧ _
    generalize ((s.size - n : Nat) : Int) = i
    unfold spotV
    go_enter Tryd.func40, Tryd.ntmps40
    go_wp2
    go_loopg [] 1 (fun k wr => wr = (w.alloc (.cells #[.string s, .int .i64 i, .bool true] 83)).alloc (.cells #[.string ⟨#[]⟩, .int .i64 0, .bool false] 83))
    case atStart => rfl
    case round =>
      subst hrel
      go_wp2
      refine bodyPost_ret (v := .agg #[.string s, .int .i64 i, .bool true]) (by simp [results, Tryd.results40, go_sem]) rfl ⟨rfl, below_alloc (below_alloc (Below.refl _ _) _) _⟩
  | none => 
    have hsuf : l <:+ bytes s := hok.1
    have hle : l.length ≤ s.size := P_le hok
    show Calls _ _ #[spotV s ((s.size - l.length : Nat) : Int) false] w fun e w' => e = .returned (spotV s ((s.size - (skip l).length : Nat) : Int) false) ∧ _
    have hi0 : s.size - l.length ≤ s.size := Nat.sub_le _ _
    have hd0 : dropB s (s.size - l.length) = l := (suf_drop hsuf).symm
    have HG := Aside0.mk (show ((s.size - (skip l).length : Nat) : Int) = ((s.size - (skip (dropB s (s.size - l.length))).length : Nat) : Int) by rw [hd0])
    generalize ((s.size - (skip l).length : Nat) : Int) = z at HG ⊢
    generalize s.size - l.length = i0 at hi0 HG ⊢
    clear hsuf hle hok hd0
    unfold spotV
    go_enter Tryd.func40, Tryd.ntmps40
    go_wp2
    go_loopg [] (s.size - i0 + 1) (fun k wr => ∃ i : Nat, Aside0 (i ≤ s.size ∧ skip (dropB s i) = skip (dropB s i0) ∧ s.size - i < k) ∧ wr = (w.alloc (.cells #[.string s, .int .i64 (i : Int), .bool false] 83)).alloc (.cells #[.string ⟨#[]⟩, .int .i64 0, .bool false] 83))
    case atStart => exact ⟨i0, ⟨hi0, rfl, by omega⟩, rfl⟩
    case round =>
      obtain ⟨i, HM, rfl⟩ := hrel
      by_cases hi : i < s.size
      · obtain ⟨c, hc⟩ : ∃ c, s[i]'hi = c := ⟨_, rfl⟩
        have hdc := dropB_cons hi
        rw [hc] at hdc
        have HD := Aside0.mk hdc
        clear hdc
        have hx : ∀ h : i < s.size, s[i]'h = c := fun _ => hc
        clear hc
        have p1 : (0 : Int) ≤ (i : Int) := by omega
        have p2 : (i : Int) < (s.size : Int) := by omega
        by_cases h32 : c = 32
        · subst h32
          go_wp2
          go_roundg (gk - 1)
          case measure => have := HM.out; omega
          case rel => exact ⟨i + 1, ⟨by omega, by have := HM.out; rw [← this.2.1, HD.out]; simp [skip], by have := HM.out; omega⟩, rfl⟩
        · have e1 : ((c.toNat : Int) == (32 : Int)) = decide (c = 32) := c_eq (n := 32) (by decide)
          rw [decide_eq_false h32] at e1
          go_wp2
          refine bodyPost_ret (v := .agg #[.string s, .int .i64 z, .bool false]) (by simp [results, Tryd.results40, go_sem]; rw [HG.out, ← HM.out.2.1, HD.out]; simp [skip, h32]; have h9 := congrArg List.length HD.out; rw [dropB_len] at h9; simp at h9; omega) rfl ⟨rfl, below_alloc (below_alloc (Below.refl _ _) _) _⟩
      · have p2 : decide ((i : Int) < (s.size : Int)) = false := decide_eq_false (by omega)
        have hiz : i = s.size := by have := HM.out; omega
        go_wp2
        refine bodyPost_ret (v := .agg #[.string s, .int .i64 z, .bool false]) (by simp [results, Tryd.results40, go_sem]; rw [HG.out, ← HM.out.2.1, dropB_nil (by omega)]; simp [skip, hiz]) rfl ⟨rfl, below_alloc (below_alloc (Below.refl _ _) _) _⟩
end Go.Proofs.YthaapijjjgkacaaDoor.Mine
end
section
/-
  The reference's parser of filters, walked: mark, word. Conditions: the text at most 1000 bytes.
-/
namespace Go.Proofs.YthaapijjjgkacaaDoor.Mine
open Go.RowKit Go.Proofs.YthaapijjjgkacaaDoorW.PrintWords Go.Proofs.YthaapijjjgkacaaDoorW.PrintLast Go.Proofs.YthaapijjjgkacaaDoorW.PrintMore
open Go.Proofs.YthaapijjjgkacaaDoor.PFilterReads
theorem spot_cells {w : World} {g : Nat} {s : ByteArray} {i : Int} {b : Bool} (h : w.heap[g]? = some (spotC s i b)) :
    w.cell? ⟨g, 0, none⟩ = some (.string s) ∧ w.cell? ⟨g, 1, none⟩ = some (.int .i64 i) ∧ w.cell? ⟨g, 2, none⟩ = some (.bool b) ∧ w.frozen? ⟨g, 0, none⟩ = false ∧ w.frozen? ⟨g, 1, none⟩ = false ∧ w.frozen? ⟨g, 2, none⟩ = false :=
  ⟨(blk_cell h 0).trans rfl, (blk_cell h 1).trans rfl, (blk_cell h 2).trans rfl, blk_frozen h 0, blk_frozen h 1, blk_frozen h 2⟩
theorem spot_new (w : World) (s s' : ByteArray) (i i' : Int) (b b' : Bool) :
    ((w.alloc (.cells #[.string s, .int .i64 i, .bool b] 83)).alloc (.cells #[.string s', .int .i64 i', .bool b'] 83)).heap[w.heap.size]? = some (spotC s i b) ∧
    ((w.alloc (.cells #[.string s, .int .i64 i, .bool b] 83)).alloc (.cells #[.string s', .int .i64 i', .bool b'] 83)).heap[w.heap.size + 1]? = some (spotC s' i' b') := by
  constructor
  · show ((w.heap.push _).push _)[_]? = _
    simp only [Array.getElem?_push, Array.size_push]
    rw [if_neg (by omega), if_pos trivial]
    rfl
  · show ((w.heap.push _).push _)[_]? = _
    simp only [Array.getElem?_push, Array.size_push]
    rw [if_pos trivial]
    rfl
theorem stV_bad (s : ByteArray) (l : List UInt8) (n : Nat) : stV s ⟨l, some n⟩ = .agg #[.string s, .int .i64 ((s.size - n : Nat) : Int), .bool true] := rfl
theorem stV_good (s : ByteArray) (l : List UInt8) : stV s ⟨l, none⟩ = .agg #[.string s, .int .i64 ((s.size - l.length : Nat) : Int), .bool false] := rfl
theorem spot_set {w : World} {g : Nat} {s0 : ByteArray} {i0 : Int} {b0 : Bool} (h : w.heap[g]? = some (spotC s0 i0 b0)) (s : ByteArray) (i : Int) (b : Bool) :
    (((w.setCell ⟨g, 0, none⟩ (.string s)).setCell ⟨g, 1, none⟩ (.int .i64 i)).setCell ⟨g, 2, none⟩ (.bool b)).heap[g]? = some (spotC s i b) := by
  have := blk_set (blk_set (blk_set h 0 (.string s)) 1 (.int .i64 i)) 2 (.bool b)
  simpa [spotC] using this
theorem spot_far {w : World} {g g2 : Nat} {o : Obj} (h : w.heap[g]? = some o) (hne : g ≠ g2) (s : ByteArray) (i : Int) (b : Bool) :
    (((w.setCell ⟨g2, 0, none⟩ (.string s)).setCell ⟨g2, 1, none⟩ (.int .i64 i)).setCell ⟨g2, 2, none⟩ (.bool b)).heap[g]? = some o := by
  rw [Below.heap_setCell _ _ _ _ hne, Below.heap_setCell _ _ _ _ hne, Below.heap_setCell _ _ _ _ hne]
  exact h
theorem spot_below {B : Nat} {w W : World} {g : Nat} (h : Below B w W) (hg : B ≤ g) (s : ByteArray) (i : Int) (b : Bool) :
    Below B w (((W.setCell ⟨g, 0, none⟩ (.string s)).setCell ⟨g, 1, none⟩ (.int .i64 i)).setCell ⟨g, 2, none⟩ (.bool b)) :=
  ((h.setCell hg _).setCell hg _).setCell hg _
set_option maxHeartbeats 1000000 in
set_option maxRecDepth 100000 in
theorem rmark_calls (s m : ByteArray) (st : St) (w : World) (hs : s.size ≤ 1000) (hm : m.size ≤ 1000) (hok : st.ok (bytes s)) :
    Calls Tryd.prog 68 #[stV s st, .string m] w fun e w' => e = .returned (stV s (markS (bytes m) st)) ∧ Below w.heap.size w w' := by
  have hok1 := blanksS_ok hok
  have hbl := fun w => rblanks_calls s st w hs hok
  obtain ⟨l, bad⟩ := st
  cases bad with
  | some n =>
    rw [markS_bad rfl]
    rw [blanksS_bad rfl] at hbl
    rw [stV_bad] at hbl ⊢
    generalize ((s.size - n : Nat) : Int) = i at hbl ⊢
    -- the two blocks of the call's own, at its beginning
    obtain ⟨hn1, hn2⟩ := spot_new w s ⟨#[]⟩ i 0 true false
    have KB1 := Aside0.mk hn1
    have KB2 := Aside0.mk hn2
    have HB := Aside0.mk (below_alloc (below_alloc (Below.refl w.heap.size w) (.cells #[.string s, .int .i64 i, .bool true] 83)) (.cells #[.string ⟨#[]⟩, .int .i64 0, .bool false] 83))
    clear hn1 hn2
    go_enter Tryd.func68, Tryd.ntmps68
    go_wp2_with fail
    refine (hbl _).mono ?_
    rintro e w1 ⟨rfl, hb⟩
    -- behind a call: the two blocks of the call's own
    have k1_ := Aside0.mk ((hb.block _ (blk_lt KB1.out)).trans KB1.out)
    have k2_ := Aside0.mk ((hb.block _ (blk_lt KB2.out)).trans KB2.out)
    have n_ := Aside0.mk (below_then HB.out HB.out.size hb)
    clear KB1 KB2 HB hb
    have KB1 := k1_
    have KB2 := k2_
    have HB := n_
    clear k1_ k2_ n_
    obtain ⟨c0, c1, c2, f0, f1, f2⟩ := spot_cells KB1.out
    obtain ⟨d0, d1, d2, g0, g1, g2⟩ := spot_cells KB2.out
    go_wp2_with fail
    refine (rbad_calls s i i true _).mono ?_
    rintro e w2 ⟨rfl, hb⟩
    clear c0 c1 c2 f0 f1 f2 d0 d1 d2 g0 g1 g2
    -- block 1 gets a spot
    have k1_ := Aside0.mk (spot_set KB1.out s i true)
    have k2_ := Aside0.mk (spot_far KB2.out (show w.heap.size + 1 ≠ w.heap.size by omega) s i true)
    have n_ := Aside0.mk (spot_below HB.out (Nat.le_refl w.heap.size) s i true)
    clear KB1 KB2 HB
    have KB1 := k1_
    have KB2 := k2_
    have HB := n_
    clear k1_ k2_ n_
    -- behind a call: the two blocks of the call's own
    have k1_ := Aside0.mk ((hb.block _ (blk_lt KB1.out)).trans KB1.out)
    have k2_ := Aside0.mk ((hb.block _ (blk_lt KB2.out)).trans KB2.out)
    have n_ := Aside0.mk (below_then HB.out HB.out.size hb)
    clear KB1 KB2 HB hb
    have KB1 := k1_
    have KB2 := k2_
    have HB := n_
    clear k1_ k2_ n_
    obtain ⟨c0, c1, c2, f0, f1, f2⟩ := spot_cells KB1.out
    obtain ⟨d0, d1, d2, g0, g1, g2⟩ := spot_cells KB2.out
    unfold spotV
    go_wp2
    refine bodyPost_ret (v := .agg #[.string s, .int .i64 i, .bool true]) (by simp [results, Tryd.results68, go_sem, d0, d1, d2]) rfl ⟨rfl, spot_below HB.out (Nat.le_succ w.heap.size) s i true⟩
  | none =>
    rw [stV_good] at hbl ⊢
    have e1 : blanksS ⟨l, none⟩ = ⟨skip l, none⟩ := rfl
    have e2 : markS (bytes m) ⟨l, none⟩ = markL (bytes m) (skip l) := rfl
    rw [e1] at hbl hok1
    rw [stV_good] at hbl
    rw [e2]
    have hle := P_le hok1
    have hsuf : skip l <:+ bytes s := hok1.1
    have hd := suf_drop hsuf
    simp only at hle
    generalize skip l = L at hbl hle hd ⊢
    generalize ((s.size - l.length : Nat) : Int) = i0 at hbl ⊢
    have hml : (bytes m).length = m.size := bytes_len m
    obtain ⟨i, hi⟩ : ∃ i, s.size - L.length = i := ⟨_, rfl⟩
    rw [hi] at hbl hd
    have hiz : i ≤ s.size := by omega
    have hli : L.length = s.size - i := by omega
    clear hok hok1 hsuf hi
    -- the two blocks of the call's own, at its beginning
    obtain ⟨hn1, hn2⟩ := spot_new w s ⟨#[]⟩ i0 0 false false
    have KB1 := Aside0.mk hn1
    have KB2 := Aside0.mk hn2
    have HB := Aside0.mk (below_alloc (below_alloc (Below.refl w.heap.size w) (.cells #[.string s, .int .i64 i0, .bool false] 83)) (.cells #[.string ⟨#[]⟩, .int .i64 0, .bool false] 83))
    clear hn1 hn2
    by_cases h1 : s.size - i < m.size
    · have hp : (bytes m).isPrefixOf L = false := by
        rw [Bool.eq_false_iff]
        intro hp
        have := (List.isPrefixOf_iff_prefix.mp hp).length_le
        omega
      have hr : stV s (markL (bytes m) L) = .agg #[.string s, .int .i64 (i : Int), .bool true] := by
        unfold markL
        rw [hp, if_neg (by simp), stV_bad, show s.size - L.length = i by omega]
      rw [hr]
      have q1 : decide ((s.size : Int) - (i : Int) < (m.size : Int)) = true := decide_eq_true (by omega)
      clear hp hr hml hd
      go_enter Tryd.func68, Tryd.ntmps68
      go_wp2_with fail
      refine (hbl _).mono ?_
      rintro e w1 ⟨rfl, hb⟩
      -- behind a call: the two blocks of the call's own
      have k1_ := Aside0.mk ((hb.block _ (blk_lt KB1.out)).trans KB1.out)
      have k2_ := Aside0.mk ((hb.block _ (blk_lt KB2.out)).trans KB2.out)
      have n_ := Aside0.mk (below_then HB.out HB.out.size hb)
      clear KB1 KB2 HB hb
      have KB1 := k1_
      have KB2 := k2_
      have HB := n_
      clear k1_ k2_ n_
      obtain ⟨c0, c1, c2, f0, f1, f2⟩ := spot_cells KB1.out
      obtain ⟨d0, d1, d2, g0, g1, g2⟩ := spot_cells KB2.out
      go_wp2_with fail
      refine (rbad_calls s (i : Int) (i : Int) false _).mono ?_
      rintro e w2 ⟨rfl, hb⟩
      clear c0 c1 c2 f0 f1 f2 d0 d1 d2 g0 g1 g2
      -- block 1 gets a spot
      have k1_ := Aside0.mk (spot_set KB1.out s (i : Int) false)
      have k2_ := Aside0.mk (spot_far KB2.out (show w.heap.size + 1 ≠ w.heap.size by omega) s (i : Int) false)
      have n_ := Aside0.mk (spot_below HB.out (Nat.le_refl w.heap.size) s (i : Int) false)
      clear KB1 KB2 HB
      have KB1 := k1_
      have KB2 := k2_
      have HB := n_
      clear k1_ k2_ n_
      -- behind a call: the two blocks of the call's own
      have k1_ := Aside0.mk ((hb.block _ (blk_lt KB1.out)).trans KB1.out)
      have k2_ := Aside0.mk ((hb.block _ (blk_lt KB2.out)).trans KB2.out)
      have n_ := Aside0.mk (below_then HB.out HB.out.size hb)
      clear KB1 KB2 HB hb
      have KB1 := k1_
      have KB2 := k2_
      have HB := n_
      clear k1_ k2_ n_
      obtain ⟨c0, c1, c2, f0, f1, f2⟩ := spot_cells KB1.out
      obtain ⟨d0, d1, d2, g0, g1, g2⟩ := spot_cells KB2.out
      unfold spotV
      go_wp2
      refine bodyPost_ret (v := .agg #[.string s, .int .i64 (i : Int), .bool true]) (by simp [results, Tryd.results68, go_sem, d0, d1, d2]) rfl ⟨rfl, spot_below HB.out (Nat.le_succ w.heap.size) s (i : Int) true⟩
    · have he : (s.extract i (i + m.size)).toList = L.take m.size := by
        rw [Lib.extract_toList, show i + m.size - i = m.size by omega]
        exact congrArg _ hd.symm
      have q1 : decide ((s.size : Int) - (i : Int) < (m.size : Int)) = false := decide_eq_false (by omega)
      have hp0 : (bytes m).isPrefixOf L = true ↔ L.take m.size = m.data.toList := by
        rw [List.isPrefixOf_iff_prefix, List.prefix_iff_eq_take, hml]
        exact ⟨fun h => h.symm, fun h => h.symm⟩
      have z1 : (0 : Int) ≤ (i : Int) := by omega
      have z2 : (i : Int) ≤ (i : Int) + (m.size : Int) := by omega
      have z3 : (i : Int) + (m.size : Int) ≤ (s.size : Int) := by omega
      have z4 : ((i : Int) + (m.size : Int)).toNat = i + m.size := by omega
      have z5 : (i : Int).toNat = i := by omega
      rw [← Lib.toList_data] at hp0
      by_cases h2 : L.take m.size = m.toList
      · have hp : (bytes m).isPrefixOf L = true := hp0.mpr h2
        have hr : stV s (markL (bytes m) L) = .agg #[.string s, .int .i64 ((i : Int) + (m.size : Int)), .bool false] := by
          unfold markL
          rw [hp, if_pos rfl, stV_good, show ((s.size - (L.drop (bytes m).length).length : Nat) : Int) = (i : Int) + (m.size : Int) by rw [List.length_drop, hml]; omega]
        rw [hr]
        rw [h2] at he
        clear hp hp0 hr hml hd h2
        go_enter Tryd.func68, Tryd.ntmps68
        go_wp2_with fail
        refine (hbl _).mono ?_
        rintro e w1 ⟨rfl, hb⟩
        -- behind a call: the two blocks of the call's own
        have k1_ := Aside0.mk ((hb.block _ (blk_lt KB1.out)).trans KB1.out)
        have k2_ := Aside0.mk ((hb.block _ (blk_lt KB2.out)).trans KB2.out)
        have n_ := Aside0.mk (below_then HB.out HB.out.size hb)
        clear KB1 KB2 HB hb
        have KB1 := k1_
        have KB2 := k2_
        have HB := n_
        clear k1_ k2_ n_
        obtain ⟨c0, c1, c2, f0, f1, f2⟩ := spot_cells KB1.out
        obtain ⟨d0, d1, d2, g0, g1, g2⟩ := spot_cells KB2.out
        go_upto_region 2 with (fail)
        clear c0 c1 c2 f0 f1 f2 d0 d1 d2 g0 g1 g2
        -- block 1 gets a spot
        have k1_ := Aside0.mk (spot_set KB1.out s (i : Int) false)
        have k2_ := Aside0.mk (spot_far KB2.out (show w.heap.size + 1 ≠ w.heap.size by omega) s (i : Int) false)
        have n_ := Aside0.mk (spot_below HB.out (Nat.le_refl w.heap.size) s (i : Int) false)
        clear KB1 KB2 HB
        have KB1 := k1_
        have KB2 := k2_
        have HB := n_
        clear k1_ k2_ n_
        -- the world behind a store of a spot into block 1 gets a name
        generalize (((w1.setCell ⟨w.heap.size, 0, none⟩ (.string s)).setCell ⟨w.heap.size, 1, none⟩ (.int .i64 (i : Int))).setCell ⟨w.heap.size, 2, none⟩ (.bool false)) = w2 at KB1 KB2 HB ⊢
        obtain ⟨c0, c1, c2, f0, f1, f2⟩ := spot_cells KB1.out
        obtain ⟨d0, d1, d2, g0, g1, g2⟩ := spot_cells KB2.out
        go_wp2_with fail
        refine bodyPost_ret (v := .agg #[.string s, .int .i64 ((i : Int) + (m.size : Int)), .bool false]) (by simp [results, Tryd.results68, go_sem, d0, d1, d2]) rfl ⟨rfl, spot_below (HB.out.setCell (p := ⟨w.heap.size, 1, none⟩) (Nat.le_refl w.heap.size) _) (Nat.le_succ w.heap.size) s ((i : Int) + (m.size : Int)) false⟩
      · have hp : (bytes m).isPrefixOf L = false := by
          rw [Bool.eq_false_iff]
          exact fun h => h2 (hp0.mp h)
        have hr : stV s (markL (bytes m) L) = .agg #[.string s, .int .i64 (i : Int), .bool true] := by
          unfold markL
          rw [hp, if_neg (by simp), stV_bad, show s.size - L.length = i by omega]
        rw [hr]
        have q2 : (L.take m.size == m.toList) = false := by simpa using h2
        generalize L.take m.size = L2 at he q2
        clear hp hp0 hr hml hd h2
        go_enter Tryd.func68, Tryd.ntmps68
        go_wp2_with fail
        refine (hbl _).mono ?_
        rintro e w1 ⟨rfl, hb⟩
        -- behind a call: the two blocks of the call's own
        have k1_ := Aside0.mk ((hb.block _ (blk_lt KB1.out)).trans KB1.out)
        have k2_ := Aside0.mk ((hb.block _ (blk_lt KB2.out)).trans KB2.out)
        have n_ := Aside0.mk (below_then HB.out HB.out.size hb)
        clear KB1 KB2 HB hb
        have KB1 := k1_
        have KB2 := k2_
        have HB := n_
        clear k1_ k2_ n_
        obtain ⟨c0, c1, c2, f0, f1, f2⟩ := spot_cells KB1.out
        obtain ⟨d0, d1, d2, g0, g1, g2⟩ := spot_cells KB2.out
        go_upto_region 2 with (fail)
        clear c0 c1 c2 f0 f1 f2 d0 d1 d2 g0 g1 g2
        -- block 1 gets a spot
        have k1_ := Aside0.mk (spot_set KB1.out s (i : Int) false)
        have k2_ := Aside0.mk (spot_far KB2.out (show w.heap.size + 1 ≠ w.heap.size by omega) s (i : Int) false)
        have n_ := Aside0.mk (spot_below HB.out (Nat.le_refl w.heap.size) s (i : Int) false)
        clear KB1 KB2 HB
        have KB1 := k1_
        have KB2 := k2_
        have HB := n_
        clear k1_ k2_ n_
        -- the world behind a store of a spot into block 1 gets a name
        generalize (((w1.setCell ⟨w.heap.size, 0, none⟩ (.string s)).setCell ⟨w.heap.size, 1, none⟩ (.int .i64 (i : Int))).setCell ⟨w.heap.size, 2, none⟩ (.bool false)) = w2 at KB1 KB2 HB ⊢
        obtain ⟨c0, c1, c2, f0, f1, f2⟩ := spot_cells KB1.out
        obtain ⟨d0, d1, d2, g0, g1, g2⟩ := spot_cells KB2.out
        go_wp2_with fail
        -- 'return bad(p, j)'
        refine (rbad_calls s (i : Int) (i : Int) false _).mono ?_
        rintro e w3 ⟨rfl, hb⟩
        clear c0 c1 c2 f0 f1 f2 d0 d1 d2 g0 g1 g2
        -- behind a call: the two blocks of the call's own
        have k1_ := Aside0.mk ((hb.block _ (blk_lt KB1.out)).trans KB1.out)
        have k2_ := Aside0.mk ((hb.block _ (blk_lt KB2.out)).trans KB2.out)
        have n_ := Aside0.mk (below_then HB.out HB.out.size hb)
        clear KB1 KB2 HB hb
        have KB1 := k1_
        have KB2 := k2_
        have HB := n_
        clear k1_ k2_ n_
        obtain ⟨c0, c1, c2, f0, f1, f2⟩ := spot_cells KB1.out
        obtain ⟨d0, d1, d2, g0, g1, g2⟩ := spot_cells KB2.out
        unfold spotV
        go_wp2
        refine bodyPost_ret (v := .agg #[.string s, .int .i64 (i : Int), .bool true]) (by simp [results, Tryd.results68, go_sem, d0, d1, d2]) rfl ⟨rfl, spot_below HB.out (Nat.le_succ w.heap.size) s (i : Int) true⟩
end Go.Proofs.YthaapijjjgkacaaDoor.Mine
end
section
/-
  The reference's parser of filters, walked: word. Conditions: the text at most 1000 bytes.
-/
namespace Go.Proofs.YthaapijjjgkacaaDoor.Mine
open Go.RowKit Go.Proofs.YthaapijjjgkacaaDoorW.PrintWords Go.Proofs.YthaapijjjgkacaaDoorW.PrintLast Go.Proofs.YthaapijjjgkacaaDoorW.PrintMore
open Go.Proofs.YthaapijjjgkacaaDoor.PFilterReads
set_option maxHeartbeats 1000000 in
set_option maxRecDepth 100000 in
theorem rword_calls (s : ByteArray) (st : St) (w : World) (hs : s.size ≤ 1000) (hok : st.ok (bytes s)) :
    Calls Tryd.prog 41 #[stV s st] w fun e w' => e = .returned (.tuple #[stV s (wordS st).2, .string ⟨(wordS st).1.toArray⟩]) ∧ Below w.heap.size w w' := by
  have hok1 := blanksS_ok hok
  have hbl := fun w => rblanks_calls s st w hs hok
  obtain ⟨l, bad⟩ := st
  cases bad with
  | some n =>
    rw [wordS_bad rfl]
    rw [blanksS_bad rfl] at hbl
    show Calls _ _ _ w fun e w' => e = .returned (.tuple #[stV s ⟨l, some n⟩, .string ⟨#[]⟩]) ∧ _
    rw [stV_bad] at hbl ⊢
    generalize ((s.size - n : Nat) : Int) = i at hbl ⊢
    -- the two blocks of the call's own, at its beginning
    obtain ⟨hn1, hn2⟩ := spot_new w s ⟨#[]⟩ i 0 true false
    have KB1 := Aside0.mk hn1
    have KB2 := Aside0.mk hn2
    have HB := Aside0.mk (below_alloc (below_alloc (Below.refl w.heap.size w) (.cells #[.string s, .int .i64 i, .bool true] 83)) (.cells #[.string ⟨#[]⟩, .int .i64 0, .bool false] 83))
    clear hn1 hn2
    go_enter Tryd.func41, Tryd.ntmps41
    -- the first call, its spot stored into block 1
    go_wp2_with fail
    refine (hbl _).mono ?_
    rintro e w1 ⟨rfl, hb⟩
    -- behind a call: the two blocks of the call's own
    have k1_ := Aside0.mk ((hb.block _ (blk_lt KB1.out)).trans KB1.out)
    have k2_ := Aside0.mk ((hb.block _ (blk_lt KB2.out)).trans KB2.out)
    have n_ := Aside0.mk (below_then HB.out HB.out.size hb)
    clear KB1 KB2 HB hb
    have KB1 := k1_
    have KB2 := k2_
    have HB := n_
    clear k1_ k2_ n_
    obtain ⟨c0, c1, c2, f0, f1, f2⟩ := spot_cells KB1.out
    obtain ⟨d0, d1, d2, g0, g1, g2⟩ := spot_cells KB2.out
    go_upto_region 2 with (fail)
    clear c0 c1 c2 f0 f1 f2 d0 d1 d2 g0 g1 g2
    -- block 1 gets a spot
    have k1_ := Aside0.mk (spot_set KB1.out s i true)
    have k2_ := Aside0.mk (spot_far KB2.out (show w.heap.size + 1 ≠ w.heap.size by omega) s i true)
    have n_ := Aside0.mk (spot_below HB.out (Nat.le_refl w.heap.size) s i true)
    clear KB1 KB2 HB
    have KB1 := k1_
    have KB2 := k2_
    have HB := n_
    clear k1_ k2_ n_
    -- the world behind a store of a spot into block 1 gets a name
    generalize (((w1.setCell ⟨w.heap.size, 0, none⟩ (.string s)).setCell ⟨w.heap.size, 1, none⟩ (.int .i64 i)).setCell ⟨w.heap.size, 2, none⟩ (.bool true)) = w2 at KB1 KB2 HB ⊢
    obtain ⟨c0, c1, c2, f0, f1, f2⟩ := spot_cells KB1.out
    obtain ⟨d0, d1, d2, g0, g1, g2⟩ := spot_cells KB2.out
    go_wp2_with fail
    -- 'return bad(p, j), ""'
    refine (rbad_calls s i i true _).mono ?_
    rintro e w3 ⟨rfl, hb⟩
    clear c0 c1 c2 f0 f1 f2 d0 d1 d2 g0 g1 g2
    -- behind a call: the two blocks of the call's own
    have k1_ := Aside0.mk ((hb.block _ (blk_lt KB1.out)).trans KB1.out)
    have k2_ := Aside0.mk ((hb.block _ (blk_lt KB2.out)).trans KB2.out)
    have n_ := Aside0.mk (below_then HB.out HB.out.size hb)
    clear KB1 KB2 HB hb
    have KB1 := k1_
    have KB2 := k2_
    have HB := n_
    clear k1_ k2_ n_
    obtain ⟨c0, c1, c2, f0, f1, f2⟩ := spot_cells KB1.out
    obtain ⟨d0, d1, d2, g0, g1, g2⟩ := spot_cells KB2.out
    unfold spotV
    go_wp2
    refine bodyPost_ret (v := .tuple #[.agg #[.string s, .int .i64 i, .bool true], .string ⟨#[]⟩]) (by simp [results, Tryd.results41, go_sem, d0, d1, d2]) rfl ⟨rfl, spot_below HB.out (Nat.le_succ w.heap.size) s i true⟩
  | none =>
    rw [stV_good] at hbl ⊢
    have e1 : blanksS ⟨l, none⟩ = ⟨skip l, none⟩ := rfl
    have e2 : wordS ⟨l, none⟩ = wordL (skip l) := rfl
    rw [e1] at hbl hok1
    rw [stV_good] at hbl
    rw [e2]
    have hle := P_le hok1
    have hsuf : skip l <:+ bytes s := hok1.1
    have hd := suf_drop hsuf
    simp only at hle
    have hws := word_str s (skip l) hsuf hle
    generalize skip l = L at hbl hle hd hws ⊢
    generalize ((s.size - l.length : Nat) : Int) = i0 at hbl ⊢
    obtain ⟨i, hi⟩ : ∃ i, s.size - L.length = i := ⟨_, rfl⟩
    rw [hi] at hbl hd hws
    have hiz : i ≤ s.size := by omega
    have hli : L.length = s.size - i := by omega
    clear hok hok1 hsuf hi e1 e2
    -- the two blocks of the call's own, at its beginning
    obtain ⟨hn1, hn2⟩ := spot_new w s ⟨#[]⟩ i0 0 false false
    have KB1 := Aside0.mk hn1
    have KB2 := Aside0.mk hn2
    have HB := Aside0.mk (below_alloc (below_alloc (Below.refl w.heap.size w) (.cells #[.string s, .int .i64 i0, .bool false] 83)) (.cells #[.string ⟨#[]⟩, .int .i64 0, .bool false] 83))
    clear hn1 hn2
    cases L with
    | nil =>
      have hr : (wordL []).2 = ⟨[], some 0⟩ := rfl
      have hr2 : (wordL []).1 = [] := rfl
      rw [hr, hr2, stV_bad]
      have hii : s.size - 0 = i := by simp at hli; omega
      rw [hii]
      have q1 : decide ((s.size : Int) ≤ (i : Int)) = true := decide_eq_true (by simp at hli; omega)
      show Calls _ _ _ w fun e w' => e = .returned (.tuple #[.agg #[.string s, .int .i64 (i : Int), .bool true], .string ⟨#[]⟩]) ∧ _
      clear hws hr hr2 hd hli
      go_enter Tryd.func41, Tryd.ntmps41
      -- the first call, its spot stored into block 1
      go_wp2_with fail
      refine (hbl _).mono ?_
      rintro e w1 ⟨rfl, hb⟩
      -- behind a call: the two blocks of the call's own
      have k1_ := Aside0.mk ((hb.block _ (blk_lt KB1.out)).trans KB1.out)
      have k2_ := Aside0.mk ((hb.block _ (blk_lt KB2.out)).trans KB2.out)
      have n_ := Aside0.mk (below_then HB.out HB.out.size hb)
      clear KB1 KB2 HB hb
      have KB1 := k1_
      have KB2 := k2_
      have HB := n_
      clear k1_ k2_ n_
      obtain ⟨c0, c1, c2, f0, f1, f2⟩ := spot_cells KB1.out
      obtain ⟨d0, d1, d2, g0, g1, g2⟩ := spot_cells KB2.out
      go_upto_region 2 with (fail)
      clear c0 c1 c2 f0 f1 f2 d0 d1 d2 g0 g1 g2
      -- block 1 gets a spot
      have k1_ := Aside0.mk (spot_set KB1.out s (i : Int) false)
      have k2_ := Aside0.mk (spot_far KB2.out (show w.heap.size + 1 ≠ w.heap.size by omega) s (i : Int) false)
      have n_ := Aside0.mk (spot_below HB.out (Nat.le_refl w.heap.size) s (i : Int) false)
      clear KB1 KB2 HB
      have KB1 := k1_
      have KB2 := k2_
      have HB := n_
      clear k1_ k2_ n_
      -- the world behind a store of a spot into block 1 gets a name
      generalize (((w1.setCell ⟨w.heap.size, 0, none⟩ (.string s)).setCell ⟨w.heap.size, 1, none⟩ (.int .i64 (i : Int))).setCell ⟨w.heap.size, 2, none⟩ (.bool false)) = w2 at KB1 KB2 HB ⊢
      obtain ⟨c0, c1, c2, f0, f1, f2⟩ := spot_cells KB1.out
      obtain ⟨d0, d1, d2, g0, g1, g2⟩ := spot_cells KB2.out
      go_wp2_with fail
      -- 'return bad(p, j), ""'
      refine (rbad_calls s (i : Int) (i : Int) false _).mono ?_
      rintro e w3 ⟨rfl, hb⟩
      clear c0 c1 c2 f0 f1 f2 d0 d1 d2 g0 g1 g2
      -- behind a call: the two blocks of the call's own
      have k1_ := Aside0.mk ((hb.block _ (blk_lt KB1.out)).trans KB1.out)
      have k2_ := Aside0.mk ((hb.block _ (blk_lt KB2.out)).trans KB2.out)
      have n_ := Aside0.mk (below_then HB.out HB.out.size hb)
      clear KB1 KB2 HB hb
      have KB1 := k1_
      have KB2 := k2_
      have HB := n_
      clear k1_ k2_ n_
      obtain ⟨c0, c1, c2, f0, f1, f2⟩ := spot_cells KB1.out
      obtain ⟨d0, d1, d2, g0, g1, g2⟩ := spot_cells KB2.out
      unfold spotV
      go_wp2
      refine bodyPost_ret (v := .tuple #[.agg #[.string s, .int .i64 (i : Int), .bool true], .string ⟨#[]⟩]) (by simp [results, Tryd.results41, go_sem, d0, d1, d2]) rfl ⟨rfl, spot_below HB.out (Nat.le_succ w.heap.size) s (i : Int) true⟩
    | cons c r =>
      obtain ⟨hlt, _, h3⟩ := bt_cons hd.symm
      have q1 : decide ((s.size : Int) ≤ (i : Int)) = false := decide_eq_false (by omega)
      have q0 : decide (s.size ≤ i) = false := decide_eq_false (by omega)
      have hx : ∀ h : i < s.size, s[i]'h = c := fun h => by
        rw [dropB_cons h] at hd
        injection hd with hd1 _
        exact hd1.symm
      have p1 : (0 : Int) ≤ (i : Int) := by omega
      have p2 : (i : Int) < (s.size : Int) := by omega
      cases hc : isL c with
      | false =>
        have hr : wordL (c :: r) = ([], ⟨c :: r, some (r.length + 1)⟩) := by simp [wordL, hc]
        rw [hr, stV_bad]
        have hii : s.size - (r.length + 1) = i := by simp at hli; omega
        rw [hii]
        show Calls _ _ _ w fun e w' => e = .returned (.tuple #[.agg #[.string s, .int .i64 (i : Int), .bool true], .string ⟨#[]⟩]) ∧ _
        have HC := Aside0.mk hc
        clear hws hr hd hli h3 hc
        go_enter Tryd.func41, Tryd.ntmps41
        -- the first call, its spot stored into block 1
        go_wp2_with fail
        refine (hbl _).mono ?_
        rintro e w1 ⟨rfl, hb⟩
        -- behind a call: the two blocks of the call's own
        have k1_ := Aside0.mk ((hb.block _ (blk_lt KB1.out)).trans KB1.out)
        have k2_ := Aside0.mk ((hb.block _ (blk_lt KB2.out)).trans KB2.out)
        have n_ := Aside0.mk (below_then HB.out HB.out.size hb)
        clear KB1 KB2 HB hb
        have KB1 := k1_
        have KB2 := k2_
        have HB := n_
        clear k1_ k2_ n_
        obtain ⟨c0, c1, c2, f0, f1, f2⟩ := spot_cells KB1.out
        obtain ⟨d0, d1, d2, g0, g1, g2⟩ := spot_cells KB2.out
        go_upto_region 2 with (fail)
        clear c0 c1 c2 f0 f1 f2 d0 d1 d2 g0 g1 g2
        -- block 1 gets a spot
        have k1_ := Aside0.mk (spot_set KB1.out s (i : Int) false)
        have k2_ := Aside0.mk (spot_far KB2.out (show w.heap.size + 1 ≠ w.heap.size by omega) s (i : Int) false)
        have n_ := Aside0.mk (spot_below HB.out (Nat.le_refl w.heap.size) s (i : Int) false)
        clear KB1 KB2 HB
        have KB1 := k1_
        have KB2 := k2_
        have HB := n_
        clear k1_ k2_ n_
        -- the world behind a store of a spot into block 1 gets a name
        generalize (((w1.setCell ⟨w.heap.size, 0, none⟩ (.string s)).setCell ⟨w.heap.size, 1, none⟩ (.int .i64 (i : Int))).setCell ⟨w.heap.size, 2, none⟩ (.bool false)) = w2 at KB1 KB2 HB ⊢
        obtain ⟨c0, c1, c2, f0, f1, f2⟩ := spot_cells KB1.out
        obtain ⟨d0, d1, d2, g0, g1, g2⟩ := spot_cells KB2.out
        go_wp2_with fail
        refine (rletter_calls c _).mono ?_
        rintro e w3 ⟨rfl, rfl⟩
        rw [HC.out]
        go_wp2_with fail
        -- 'return bad(p, j), ""'
        refine (rbad_calls s (i : Int) (i : Int) false _).mono ?_
        rintro e w3 ⟨rfl, hb⟩
        clear c0 c1 c2 f0 f1 f2 d0 d1 d2 g0 g1 g2
        -- behind a call: the two blocks of the call's own
        have k1_ := Aside0.mk ((hb.block _ (blk_lt KB1.out)).trans KB1.out)
        have k2_ := Aside0.mk ((hb.block _ (blk_lt KB2.out)).trans KB2.out)
        have n_ := Aside0.mk (below_then HB.out HB.out.size hb)
        clear KB1 KB2 HB hb
        have KB1 := k1_
        have KB2 := k2_
        have HB := n_
        clear k1_ k2_ n_
        obtain ⟨c0, c1, c2, f0, f1, f2⟩ := spot_cells KB1.out
        obtain ⟨d0, d1, d2, g0, g1, g2⟩ := spot_cells KB2.out
        unfold spotV
        go_wp2
        refine bodyPost_ret (v := .tuple #[.agg #[.string s, .int .i64 (i : Int), .bool true], .string ⟨#[]⟩]) (by simp [results, Tryd.results41, go_sem, d0, d1, d2]) rfl ⟨rfl, spot_below HB.out (Nat.le_succ w.heap.size) s (i : Int) true⟩
      | true =>
        have hr : wordL (c :: r) = (c :: r.takeWhile isA, ⟨r.dropWhile isA, none⟩) := by simp [wordL, hc]
        rw [hr] at hws ⊢
        rw [stV_good]
        simp only at hws
        obtain ⟨z, hz⟩ : ∃ z : Nat, s.size - (r.dropWhile isA).length = z := ⟨_, rfl⟩
        rw [hz] at hws ⊢
        rw [← hws]
        have HC := Aside0.mk hc
        have HZ := Aside0.mk hz
        have H3 := Aside0.mk h3
        clear hws hr hd hli h3 hc hz
        go_enter Tryd.func41, Tryd.ntmps41
        -- the first call, its spot stored into block 1
        go_wp2_with fail
        refine (hbl _).mono ?_
        rintro e w1 ⟨rfl, hb⟩
        -- behind a call: the two blocks of the call's own
        have k1_ := Aside0.mk ((hb.block _ (blk_lt KB1.out)).trans KB1.out)
        have k2_ := Aside0.mk ((hb.block _ (blk_lt KB2.out)).trans KB2.out)
        have n_ := Aside0.mk (below_then HB.out HB.out.size hb)
        clear KB1 KB2 HB hb
        have KB1 := k1_
        have KB2 := k2_
        have HB := n_
        clear k1_ k2_ n_
        obtain ⟨c0, c1, c2, f0, f1, f2⟩ := spot_cells KB1.out
        obtain ⟨d0, d1, d2, g0, g1, g2⟩ := spot_cells KB2.out
        go_upto_region 2 with (fail)
        clear c0 c1 c2 f0 f1 f2 d0 d1 d2 g0 g1 g2
        -- block 1 gets a spot
        have k1_ := Aside0.mk (spot_set KB1.out s (i : Int) false)
        have k2_ := Aside0.mk (spot_far KB2.out (show w.heap.size + 1 ≠ w.heap.size by omega) s (i : Int) false)
        have n_ := Aside0.mk (spot_below HB.out (Nat.le_refl w.heap.size) s (i : Int) false)
        clear KB1 KB2 HB
        have KB1 := k1_
        have KB2 := k2_
        have HB := n_
        clear k1_ k2_ n_
        -- the world behind a store of a spot into block 1 gets a name
        generalize (((w1.setCell ⟨w.heap.size, 0, none⟩ (.string s)).setCell ⟨w.heap.size, 1, none⟩ (.int .i64 (i : Int))).setCell ⟨w.heap.size, 2, none⟩ (.bool false)) = w2 at KB1 KB2 HB ⊢
        obtain ⟨c0, c1, c2, f0, f1, f2⟩ := spot_cells KB1.out
        obtain ⟨d0, d1, d2, g0, g1, g2⟩ := spot_cells KB2.out
        go_wp2_with fail
        refine (rletter_calls c _).mono ?_
        rintro e w3 ⟨rfl, rfl⟩
        rw [HC.out]
        go_wp2_with fail
        go_loopg [4] (s.size + 1) (fun k t wr => ∃ j : Nat, Aside0 (j ≤ s.size ∧ i < j ∧ (dropB s j).dropWhile isA = (dropB s (i + 1)).dropWhile isA ∧ s.size - j < k) ∧ t = .int .i64 (j : Int) ∧ wr = w2)
        case atStart => exact ⟨i + 1, ⟨by omega, by omega, rfl, by omega⟩, rfl, rfl⟩
        case round =>
          obtain ⟨j, HM, rfl, rfl⟩ := hrel
          by_cases hj : j < s.size
          · obtain ⟨c2, hc2⟩ : ∃ c, s[j]'hj = c := ⟨_, rfl⟩
            have hdc := dropB_cons hj
            rw [hc2] at hdc
            have HD := Aside0.mk hdc
            clear hdc
            have hx2 : ∀ h : j < s.size, s[j]'h = c2 := fun _ => hc2
            clear hc2
            have p3 : (0 : Int) ≤ (j : Int) := by omega
            have p4 : (j : Int) < (s.size : Int) := by omega
            clear hx p1 p2
            cases hl : isL c2 with
            | true =>
              go_wp2_with fail
              refine (rletter_calls c2 _).mono ?_
              rintro e w3 ⟨rfl, rfl⟩
              rw [hl]
              go_wp2_with fail
              go_roundg (gk - 1)
              case measure => have := HM.out; omega
              case rel => exact ⟨j + 1, ⟨by omega, by have := HM.out; omega, by have := HM.out; rw [← this.2.2.1, HD.out, List.dropWhile_cons, if_pos (by simp [isA, hl])], by have := HM.out; omega⟩, rfl, rfl⟩
            | false =>
              go_wp2_with fail
              refine (rletter_calls c2 _).mono ?_
              rintro e w3 ⟨rfl, rfl⟩
              rw [hl]
              go_wp2_with fail
              refine (rdigit_calls c2 _).mono ?_
              rintro e w3 ⟨rfl, rfl⟩
              cases hdg : isD c2 with
              | true =>
                go_wp2_with fail
                go_roundg (gk - 1)
                case measure => have := HM.out; omega
                case rel => exact ⟨j + 1, ⟨by omega, by have := HM.out; omega, by have := HM.out; rw [← this.2.2.1, HD.out, List.dropWhile_cons, if_pos (by simp [isA, hdg])], by have := HM.out; omega⟩, rfl, rfl⟩
              | false =>
                have hjz : j = z := by
                  have h1 := HM.out.2.2.1
                  rw [HD.out, List.dropWhile_cons, if_neg (by simp [isA, hl, hdg]), H3.out] at h1
                  have h2 := HZ.out
                  rw [← h1, ← HD.out, dropB_len] at h2
                  omega
                subst hjz
                have p5 : (i : Int) ≤ (j : Int) := by have := HM.out; omega
                have p6 : (0 : Int) ≤ (i : Int) := by omega
                have p7 : (j : Int) ≤ (s.size : Int) := by omega
                go_wp2
                refine bodyPost_ret (v := .tuple #[.agg #[.string s, .int .i64 (j : Int), .bool false], .string (s.extract i j)]) (by simp [results, Tryd.results41, go_sem, d0, d1, d2]) rfl ⟨rfl, spot_below (HB.out.setCell (p := ⟨w.heap.size, 1, none⟩) (Nat.le_refl w.heap.size) _) (Nat.le_succ w.heap.size) s (j : Int) false⟩
          · have hje : j = s.size := by have := HM.out; omega
            have hjz : j = z := by
              have h1 := HM.out.2.2.1
              rw [dropB_nil (by omega), H3.out] at h1
              have h2 := HZ.out
              rw [← h1] at h2
              simp at h2
              omega
            subst hjz
            have p3 : decide ((j : Int) < (s.size : Int)) = false := decide_eq_false (by omega)
            have p5 : (i : Int) ≤ (j : Int) := by have := HM.out; omega
            have p6 : (0 : Int) ≤ (i : Int) := by omega
            have p7 : (j : Int) ≤ (s.size : Int) := by omega
            clear hje
            go_wp2
            refine bodyPost_ret (v := .tuple #[.agg #[.string s, .int .i64 (j : Int), .bool false], .string (s.extract i j)]) (by simp [results, Tryd.results41, go_sem, d0, d1, d2]) rfl ⟨rfl, spot_below (HB.out.setCell (p := ⟨w.heap.size, 1, none⟩) (Nat.le_refl w.heap.size) _) (Nat.le_succ w.heap.size) s (j : Int) false⟩
end Go.Proofs.YthaapijjjgkacaaDoor.Mine
end
