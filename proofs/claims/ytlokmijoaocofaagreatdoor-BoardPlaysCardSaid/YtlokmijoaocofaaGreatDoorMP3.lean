/- Texts of one claim, one behind the other, made short by a program. -/
import Derived.Test.YtlokmijoaocofaaGreatDoorMP2
set_option linter.unusedSimpArgs false
set_option linter.unusedVariables false
set_option maxRecDepth 100000
section
namespace Go.Proofs.YtlokmijoaocofaaGreatDoor.PBoardPlays
open Go.RowKit Go.Proofs.YtlokmijoaocofaaGreatDoorW.PrintWords Go.Proofs.YtlokmijoaocofaaGreatDoorW.PrintLast Go.Proofs.YtlokmijoaocofaaGreatDoorW.PrintMore
attribute [local go_sem] max2_int min2_int max_two min_two max_three min_three max_four min_four
def wigwaglaw01_Cut.f (a0 : ByteArray) (a1 : Int) : Option (ByteArray) := if (a0.size : Int) > a1 then (if 0 ≤ a1 then (if a1 ≤ (a0.size : Int) then (some (a0.extract 0 (a1 : Int).toNat)) else (none)) else (none)) else (some a0)
set_option maxHeartbeats 8000000 in
theorem wigwaglaw01_Cut.calls (a0 : ByteArray) (a1 : Int) (r : ByteArray) (w : World) (h : wigwaglaw01_Cut.f a0 a1 = some r) :
 Calls Tryz.prog 13 #[.string a0, .int .i64 a1] w fun e w' => e = .returned (.string r) ∧ Drawn0 w w' := by
 have H : (if (a0.size : Int) > a1 then (if 0 ≤ a1 then (if a1 ≤ (a0.size : Int) then (some (a0.extract 0 (a1 : Int).toNat)) else (none)) else (none)) else (some a0)) = some r := h
 clear h
 by_cases c3 : (a0.size : Int) > a1
 ·
  rw [if_pos c3] at H
  have c3b0 : decide (a1 < (a0.size : Int)) = true := decide_eq_true c3
  clear c3
  by_cases c4 : 0 ≤ a1
  ·
   rw [if_pos c4] at H
   have c4b0 := eq_true c4
   have c4b1 : decide (0 ≤ a1) = true := decide_eq_true c4
   clear c4
   by_cases c5 : a1 ≤ (a0.size : Int)
   ·
    rw [if_pos c5] at H
    have c5b0 := eq_true c5
    have c5b1 : decide (a1 ≤ (a0.size : Int)) = true := decide_eq_true c5
    clear c5
    obtain rfl := Option.some.inj H
    go_enter Tryz.func13, Tryz.ntmps13
    go_wp2
    go_ret
    exact ⟨by first | rfl | (simp; done) | (simp [*]; done), by repeat (first | exact Drawn0.refl _ | apply Drawn0.step)⟩
   ·
    rw [if_neg c5] at H
    exact absurd H (by simp)
  ·
   rw [if_neg c4] at H
   exact absurd H (by simp)
 ·
  rw [if_neg c3] at H
  have c3b0 : decide (a1 < (a0.size : Int)) = false := decide_eq_false c3
  clear c3
  obtain rfl := Option.some.inj H
  go_enter Tryz.func13, Tryz.ntmps13
  go_wp2
  go_ret
  exact ⟨by first | rfl | (simp; done) | (simp [*]; done), by repeat (first | exact Drawn0.refl _ | apply Drawn0.step)⟩
def IsS206 (w0 W : World) (g : Nat) (f0 : ByteArray) (f1 : Int) (f2 : Int) : Prop := W.heap[g]? = some (.cells #[.string f0, .int .i64 f1, .int .i64 f2] 206 (0, 0)) ∧ w0.heap.size ≤ g
theorem IsS206.grown {w0 W : World} {g : Nat} {f0 : ByteArray} {f1 : Int} {f2 : Int} {W1 : World} {row : Option Nat} (h : IsS206 w0 W g f0 f1 f2) (hw : W.grownBy W1 row) (hne : some g ≠ row) : IsS206 w0 W1 g f0 f1 f2 := by
 obtain ⟨hb, hg⟩ := h
 exact ⟨blk_grown hb hw hne, hg⟩
theorem IsS206.kept {w0 W : World} {g : Nat} {f0 : ByteArray} {f1 : Int} {f2 : Int} {W1 : World} {S : Nat → Prop} (h : IsS206 w0 W g f0 f1 f2) (hk : Kept W W1 S) (hne : ¬ S g) : IsS206 w0 W1 g f0 f1 f2 := by
 obtain ⟨hb, hg⟩ := h
 exact ⟨blk_kept hb hk hne, hg⟩
theorem IsS206.below {w0 W : World} {g : Nat} {f0 : ByteArray} {f1 : Int} {f2 : Int} {W1 : World} (h : IsS206 w0 W g f0 f1 f2) (hw : Below W.heap.size W W1) : IsS206 w0 W1 g f0 f1 f2 := h.grown (grown_of_below hw none) (by simp)
theorem IsS206.alloc {w0 W : World} {g : Nat} {f0 : ByteArray} {f1 : Int} {f2 : Int} (h : IsS206 w0 W g f0 f1 f2) (o : Obj) : IsS206 w0 (W.alloc o) g f0 f1 f2 := h.below (below_alloc (Below.refl _ _) o)
theorem IsS206.drewN {w0 W : World} {g : Nat} {f0 : ByteArray} {f1 : Int} {f2 : Int} (h : IsS206 w0 W g f0 f1 f2) (m : Nat) : IsS206 w0 (W.drewN m) g f0 f1 f2 := h
theorem IsS206.drew {w0 W : World} {g : Nat} {f0 : ByteArray} {f1 : Int} {f2 : Int} (h : IsS206 w0 W g f0 f1 f2) : IsS206 w0 W.drew g f0 f1 f2 := h
theorem IsS206.at_ {w0 W : World} {g : Nat} {f0 : ByteArray} {f1 : Int} {f2 : Int} {w' : World} {m : Nat} (hq : W.drewN m = w') (h : IsS206 w0 W g f0 f1 f2) : IsS206 w0 w' g f0 f1 f2 := by subst hq; exact IsS206.drewN h m
theorem IsS206.apart {w0 W : World} {g : Nat} {f0 : ByteArray} {f1 : Int} {f2 : Int} {α : Type} {d : Kd α} {e : Nat} {base : Nat} {ok : Nat → Prop} {v : Value} {xs : List α} (h : IsS206 w0 W g f0 f1 f2) (ho : d.R e W base ok v xs) (ht : ∀ q, q ∈ e :: d.E → q ≠ 206) : d.R e W base (fun k => ok k ∧ k ≠ g) v xs := by
 obtain ⟨hb, hg⟩ := h
 exact Kd.R_types ho hb ht
theorem IsS206.own_ne {w0 W : World} {g : Nat} {f0 : ByteArray} {f1 : Int} {f2 : Int} {α : Type} {d : Kd α} {e : Nat} {base : Nat} {ok : Nat → Prop} {v : Value} {xs : List α} (h : IsS206 w0 W g f0 f1 f2) (ho : d.R e W base ok v xs) (ht : e ≠ 206) : some g ≠ v.ownBlock := by
 obtain ⟨hb, hg⟩ := h
 exact Kd.R_ne ho hb ht
theorem IsS206.lt {w0 W : World} {g : Nat} {f0 : ByteArray} {f1 : Int} {f2 : Int} (h : IsS206 w0 W g f0 f1 f2) : g < W.heap.size := by
 obtain ⟨hb, hg⟩ := h
 exact blk_lt hb
theorem IsS206.ge {w0 W : World} {g : Nat} {f0 : ByteArray} {f1 : Int} {f2 : Int} (h : IsS206 w0 W g f0 f1 f2) : w0.heap.size ≤ g := by
 obtain ⟨hb, hg⟩ := h
 exact hg
theorem IsS206.far {w0 W : World} {g : Nat} {f0 : ByteArray} {f1 : Int} {f2 : Int} {p : Addr} (h : IsS206 w0 W g f0 f1 f2) (hne : g ≠ p.block) (u : Value) : IsS206 w0 (W.setCell p u) g f0 f1 f2 := by
 obtain ⟨hb, hg⟩ := h
 exact ⟨blk_far hb hne u, hg⟩
theorem cellS206_0 {W : World} {g : Nat} {f0 : ByteArray} {f1 : Int} {f2 : Int} (h : W.heap[g]? = some (.cells #[.string f0, .int .i64 f1, .int .i64 f2] 206 (0, 0))) : W.cell? ⟨g, 0, none⟩ = some (.string f0) := (blk_cell h 0).trans rfl
theorem IsS206.set_0 {w0 W : World} {g : Nat} {f0 : ByteArray} {f1 : Int} {f2 : Int} (h : IsS206 w0 W g f0 f1 f2) (x : ByteArray) : IsS206 w0 (W.setCell ⟨g, 0, none⟩ (.string x)) g x f1 f2 := by
 obtain ⟨hb, hg⟩ := h
 exact ⟨by simpa using blk_set hb 0 (.string x), hg⟩
theorem cellS206_1 {W : World} {g : Nat} {f0 : ByteArray} {f1 : Int} {f2 : Int} (h : W.heap[g]? = some (.cells #[.string f0, .int .i64 f1, .int .i64 f2] 206 (0, 0))) : W.cell? ⟨g, 1, none⟩ = some (.int .i64 f1) := (blk_cell h 1).trans rfl
theorem IsS206.set_1 {w0 W : World} {g : Nat} {f0 : ByteArray} {f1 : Int} {f2 : Int} (h : IsS206 w0 W g f0 f1 f2) (x : Int) : IsS206 w0 (W.setCell ⟨g, 1, none⟩ (.int .i64 x)) g f0 x f2 := by
 obtain ⟨hb, hg⟩ := h
 exact ⟨by simpa using blk_set hb 1 (.int .i64 x), hg⟩
theorem cellS206_2 {W : World} {g : Nat} {f0 : ByteArray} {f1 : Int} {f2 : Int} (h : W.heap[g]? = some (.cells #[.string f0, .int .i64 f1, .int .i64 f2] 206 (0, 0))) : W.cell? ⟨g, 2, none⟩ = some (.int .i64 f2) := (blk_cell h 2).trans rfl
theorem IsS206.set_2 {w0 W : World} {g : Nat} {f0 : ByteArray} {f1 : Int} {f2 : Int} (h : IsS206 w0 W g f0 f1 f2) (x : Int) : IsS206 w0 (W.setCell ⟨g, 2, none⟩ (.int .i64 x)) g f0 f1 x := by
 obtain ⟨hb, hg⟩ := h
 exact ⟨by simpa using blk_set hb 2 (.int .i64 x), hg⟩
theorem IsS206.new (w0 W : World) (f0 : ByteArray) (f1 : Int) (f2 : Int) (hB : Below w0.heap.size w0 W) : IsS206 w0 (W.alloc (.cells #[.string f0, .int .i64 f1, .int .i64 f2] 206)) W.heap.size f0 f1 f2 := ⟨by simpa using heap_alloc_new W _, hB.size⟩
def filter_parser_blanks.l0 : Nat → ByteArray → Int → Int → Option (ByteArray × Int × Int)
 | 0, _, _, _ => none
 | k + 1, x1000, x1001, x1002 => if x1002 < 0 then (if x1001 < (x1000.size : Int) then (if 0 ≤ x1001 then (if (bt x1000 x1001) = 32 then (filter_parser_blanks.l0 k x1000 (wrap64 (x1001 + 1)) x1002) else (some (x1000, x1001, x1002))) else (none)) else (some (x1000, x1001, x1002))) else (some (x1000, x1001, x1002))
def filter_parser_blanks.f (k : Nat) (s0_0 : ByteArray) (s0_1 : Int) (s0_2 : Int) : Option (ByteArray × Int × Int) := filter_parser_blanks.l0 k s0_0 s0_1 s0_2
theorem filter_parser_blanks.mono_l : ∀ k, (∀ y0 y1 y2, LeO (filter_parser_blanks.l0 k y0 y1 y2) (filter_parser_blanks.l0 (k + 1) y0 y1 y2))
 | 0 => fun _ _ _ r h => by simp [filter_parser_blanks.l0] at h
 | k + 1 => by
  have ih0 := filter_parser_blanks.mono_l k
  ·
   intro y0 y1 y2
   unfold filter_parser_blanks.l0
   repeat' first
   | (with_reducible exact ih0 _ _ _)
   | (with_reducible exact LeO.refl _)
   | (with_reducible exact LeO.none _)
   | (with_reducible refine LeO.ite ?_ ?_)
   | (with_reducible refine LeO.bind ?_ (fun _ => ?_))
   | exact ih0 _ _ _
   | exact LeO.none _
   | refine LeO.ite ?_ ?_
   | refine LeO.bind ?_ (fun _ => ?_)
theorem filter_parser_blanks.mono : ∀ a0 a1 a2 k, LeO (filter_parser_blanks.f k a0 a1 a2) (filter_parser_blanks.f (k + 1) a0 a1 a2) := by
 intro a0 a1 a2 k
 have ih0 := filter_parser_blanks.mono_l k
 unfold filter_parser_blanks.f
 repeat' first
  | (with_reducible exact ih0 _ _ _)
  | (with_reducible exact LeO.refl _)
  | (with_reducible exact LeO.none _)
  | (with_reducible refine LeO.ite ?_ ?_)
  | (with_reducible refine LeO.bind ?_ (fun _ => ?_))
  | exact ih0 _ _ _
  | exact LeO.none _
  | refine LeO.ite ?_ ?_
  | refine LeO.bind ?_ (fun _ => ?_)
set_option maxHeartbeats 8000000 in
theorem filter_parser_blanks.calls (k : Nat) (g : Nat) (s0_0 : ByteArray) (s0_1 : Int) (s0_2 : Int) (r1 : ByteArray) (r2 : Int) (r3 : Int) (w0 w : World) (hI : IsS206 w0 w g s0_0 s0_1 s0_2) (hB : Below w0.heap.size w0 w) (h : filter_parser_blanks.f k s0_0 s0_1 s0_2 = some (r1, r2, r3)) :
 Calls Tryz.prog 96 #[.pointer (some ⟨g, 0, none⟩)] w fun e w' => e = .returned (.tuple #[]) ∧ IsS206 w0 w' g r1 r2 r3 ∧ Below w0.heap.size w0 w' ∧ KeepBut w w' g none := by
 have HI0 := mk0 hI
 have HK := mk0 (KeepBut.refl w g none)
 have HL := mk0 hB.size
 clear hI
 have HW0 := mk0 hB.size
 have HB := mk0 hB
 clear hB
 have H : (filter_parser_blanks.l0 k s0_0 s0_1 s0_2) = some (r1, r2, r3) := h
 clear h
 have H' := mk0 H
 clear H
 go_enter Tryz.func96, Tryz.ntmps96
 go_wp2
 repeat (go_quiet (fail); try go_wp2)
 go_loopg [] k (fun kq w' => ∃ (x1001_1 : Int), Aside0 (filter_parser_blanks.l0 kq s0_0 x1001_1 s0_2 = some (r1, r2, r3)) ∧ Aside0 (kq ≤ k) ∧ Aside0 (IsS206 w0 w' g s0_0 x1001_1 s0_2) ∧ Aside0 (KeepBut w w' g none) ∧ Aside0 (Below w0.heap.size w0 w'))
 case atStart => exact ⟨(s0_1), H', ⟨Nat.le_refl _⟩, ⟨by repeat (first | (with_reducible first | exact HI0.out | apply IsS206.alloc | apply IsS206.drewN | apply IsS206.drew | apply IsS206.set_0 | apply IsS206.set_1 | apply IsS206.set_2) | exact HI0.out)⟩, ⟨by repeat (first | (with_reducible first | exact HK.out | apply KeepBut.set_ | apply keep_drewN | apply keep_drew | apply keep_alloc) | exact HK.out)⟩, ⟨by repeat (first | (with_reducible first | exact HB.out | apply below_alloc | apply pw_below_drewN | apply below_drew1 | refine below_set ?_ (IsS206.ge HI0.out)) | exact HB.out)⟩⟩
 case round =>
  clear H'
  obtain ⟨x1001_1, HA, HK1, HI0, HK, HB⟩ := hrel
  cases gk with
  | zero => exact absurd HA.out (by simp [filter_parser_blanks.l0])
  | succ k1 =>
   have H := HA.out
   clear HA
   simp only [filter_parser_blanks.l0] at H
   by_cases c2 : s0_2 < 0
   ·
    rw [if_pos c2] at H
    have c2b0 : decide (s0_2 < 0) = true := decide_eq_true c2
    clear c2
    by_cases c3 : x1001_1 < (s0_0.size : Int)
    ·
     rw [if_pos c3] at H
     have c3b0 : decide (x1001_1 < (s0_0.size : Int)) = true := decide_eq_true c3
     clear c3
     by_cases c4 : 0 ≤ x1001_1
     ·
      rw [if_pos c4] at H
      have c4b0 : decide (0 ≤ x1001_1) = true := decide_eq_true c4
      clear c4
      by_cases c6 : (bt s0_0 x1001_1) = 32
      ·
       rw [if_pos c6] at H
       have c6b0 : ((bt s0_0 x1001_1) == 32) = true := beq_iff_eq.mpr c6
       have c6b1 : ((bt s0_0 x1001_1) != 32) = false := bne_eq_false_iff_eq.mpr c6
       clear c6
       have H' := mk0 H
       clear H
       obtain ⟨HGz7, hgz7⟩ := HI0.out
       have hcz7_0 := cellS206_0 HGz7
       have hcz7_1 := cellS206_1 HGz7
       have hcz7_2 := cellS206_2 HGz7
       have hfz7_0 := blk_frozen HGz7 0
       have hfz7_1 := blk_frozen HGz7 1
       have hfz7_2 := blk_frozen HGz7 2
       clear HGz7 hgz7
       have p5 : 0 ≤ (x1001_1 : Int) := of_decide_eq_true (by first | (with_reducible assumption) | assumption)
       have q5 : x1001_1 < (s0_0.size : Int) := of_decide_eq_true (by first | (with_reducible assumption) | assumption)
       have hx5 := bt_at s0_0 x1001_1
       replace p5 := eq_true p5
       replace q5 := eq_true q5
       go_wp2
       repeat (go_quiet (fail); try go_wp2)
       go_roundg k1
       case measure => have := HK1.out; omega
       case rel => exact ⟨(wrap64 (x1001_1 + 1)), H', ⟨by have := HK1.out; omega⟩, ⟨by repeat (first | (with_reducible first | exact HI0.out | apply IsS206.alloc | apply IsS206.drewN | apply IsS206.drew | apply IsS206.set_0 | apply IsS206.set_1 | apply IsS206.set_2) | exact HI0.out)⟩, ⟨by repeat (first | (with_reducible first | exact HK.out | apply KeepBut.set_ | apply keep_drewN | apply keep_drew | apply keep_alloc) | exact HK.out)⟩, ⟨by repeat (first | (with_reducible first | exact HB.out | apply below_alloc | apply pw_below_drewN | apply below_drew1 | refine below_set ?_ (IsS206.ge HI0.out)) | exact HB.out)⟩⟩
      ·
       rw [if_neg c6] at H
       have c6b0 : ((bt s0_0 x1001_1) == 32) = false := beq_eq_false_iff_ne.mpr c6
       have c6b1 : ((bt s0_0 x1001_1) != 32) = true := bne_iff_ne.mpr c6
       simp only [Option.some.injEq, Prod.mk.injEq] at H
       obtain ⟨rfl, rfl, rfl⟩ := H
       obtain ⟨HGz8, hgz8⟩ := HI0.out
       have hcz8_0 := cellS206_0 HGz8
       have hcz8_1 := cellS206_1 HGz8
       have hcz8_2 := cellS206_2 HGz8
       have hfz8_0 := blk_frozen HGz8 0
       have hfz8_1 := blk_frozen HGz8 1
       have hfz8_2 := blk_frozen HGz8 2
       clear HGz8 hgz8
       have p5 : 0 ≤ (x1001_1 : Int) := of_decide_eq_true (by first | (with_reducible assumption) | assumption)
       have q5 : x1001_1 < (s0_0.size : Int) := of_decide_eq_true (by first | (with_reducible assumption) | assumption)
       have hx5 := bt_at s0_0 x1001_1
       replace p5 := eq_true p5
       replace q5 := eq_true q5
       go_wp2
       repeat (go_quiet (fail); try go_wp2)
       first | go_end0 | ((try simp only [Exit.inBlock, Exit.then]); refine bodyPost_ret (results_none rfl _ _ _) rfl ?_)
       exact ⟨by first | rfl | (simp [errW_none, errW_some] <;> rfl) | (simp [*, errW_none, errW_some] <;> rfl), by repeat (first | (with_reducible first | exact HI0.out | apply IsS206.alloc | apply IsS206.drewN | apply IsS206.drew | apply IsS206.set_0 | apply IsS206.set_1 | apply IsS206.set_2) | exact HI0.out), by repeat (first | (with_reducible first | exact HB.out | apply below_alloc | apply pw_below_drewN | apply below_drew1 | refine below_set ?_ (IsS206.ge HI0.out)) | exact HB.out), by repeat (first | (with_reducible first | exact HK.out | apply KeepBut.set_ | apply keep_drewN | apply keep_drew | apply keep_alloc) | exact HK.out)⟩
     ·
      rw [if_neg c4] at H
      exact absurd H (by simp)
    ·
     rw [if_neg c3] at H
     have c3b0 : decide (x1001_1 < (s0_0.size : Int)) = false := decide_eq_false c3
     clear c3
     simp only [Option.some.injEq, Prod.mk.injEq] at H
     obtain ⟨rfl, rfl, rfl⟩ := H
     obtain ⟨HGz9, hgz9⟩ := HI0.out
     have hcz9_0 := cellS206_0 HGz9
     have hcz9_1 := cellS206_1 HGz9
     have hcz9_2 := cellS206_2 HGz9
     have hfz9_0 := blk_frozen HGz9 0
     have hfz9_1 := blk_frozen HGz9 1
     have hfz9_2 := blk_frozen HGz9 2
     clear HGz9 hgz9
     go_wp2
     repeat (go_quiet (fail); try go_wp2)
     first | go_end0 | ((try simp only [Exit.inBlock, Exit.then]); refine bodyPost_ret (results_none rfl _ _ _) rfl ?_)
     exact ⟨by first | rfl | (simp [errW_none, errW_some] <;> rfl) | (simp [*, errW_none, errW_some] <;> rfl), by repeat (first | (with_reducible first | exact HI0.out | apply IsS206.alloc | apply IsS206.drewN | apply IsS206.drew | apply IsS206.set_0 | apply IsS206.set_1 | apply IsS206.set_2) | exact HI0.out), by repeat (first | (with_reducible first | exact HB.out | apply below_alloc | apply pw_below_drewN | apply below_drew1 | refine below_set ?_ (IsS206.ge HI0.out)) | exact HB.out), by repeat (first | (with_reducible first | exact HK.out | apply KeepBut.set_ | apply keep_drewN | apply keep_drew | apply keep_alloc) | exact HK.out)⟩
   ·
    rw [if_neg c2] at H
    have c2b0 : decide (s0_2 < 0) = false := decide_eq_false c2
    clear c2
    simp only [Option.some.injEq, Prod.mk.injEq] at H
    obtain ⟨rfl, rfl, rfl⟩ := H
    obtain ⟨HGz10, hgz10⟩ := HI0.out
    have hcz10_0 := cellS206_0 HGz10
    have hcz10_1 := cellS206_1 HGz10
    have hcz10_2 := cellS206_2 HGz10
    have hfz10_0 := blk_frozen HGz10 0
    have hfz10_1 := blk_frozen HGz10 1
    have hfz10_2 := blk_frozen HGz10 2
    clear HGz10 hgz10
    go_wp2
    repeat (go_quiet (fail); try go_wp2)
    first | go_end0 | ((try simp only [Exit.inBlock, Exit.then]); refine bodyPost_ret (results_none rfl _ _ _) rfl ?_)
    exact ⟨by first | rfl | (simp [errW_none, errW_some] <;> rfl) | (simp [*, errW_none, errW_some] <;> rfl), by repeat (first | (with_reducible first | exact HI0.out | apply IsS206.alloc | apply IsS206.drewN | apply IsS206.drew | apply IsS206.set_0 | apply IsS206.set_1 | apply IsS206.set_2) | exact HI0.out), by repeat (first | (with_reducible first | exact HB.out | apply below_alloc | apply pw_below_drewN | apply below_drew1 | refine below_set ?_ (IsS206.ge HI0.out)) | exact HB.out), by repeat (first | (with_reducible first | exact HK.out | apply KeepBut.set_ | apply keep_drewN | apply keep_drew | apply keep_alloc) | exact HK.out)⟩
def filter_parser_stop.f (s0_0 : ByteArray) (s0_1 : Int) (s0_2 : Int) (a1 : Int) : Option (ByteArray × Int × Int) := if s0_2 < 0 then (some (s0_0, s0_1, a1)) else (some (s0_0, s0_1, s0_2))
set_option maxHeartbeats 8000000 in
theorem filter_parser_stop.calls (g : Nat) (s0_0 : ByteArray) (s0_1 : Int) (s0_2 : Int) (a1 : Int) (r1 : ByteArray) (r2 : Int) (r3 : Int) (w0 w : World) (hI : IsS206 w0 w g s0_0 s0_1 s0_2) (hB : Below w0.heap.size w0 w) (h : filter_parser_stop.f s0_0 s0_1 s0_2 a1 = some (r1, r2, r3)) :
 Calls Tryz.prog 98 #[.pointer (some ⟨g, 0, none⟩), .int .i64 a1] w fun e w' => e = .returned (.tuple #[]) ∧ IsS206 w0 w' g r1 r2 r3 ∧ Below w0.heap.size w0 w' ∧ KeepBut w w' g none := by
 have HI0 := mk0 hI
 have HK := mk0 (KeepBut.refl w g none)
 have HL := mk0 hB.size
 clear hI
 have HW0 := mk0 hB.size
 have HB := mk0 hB
 clear hB
 have H : (if s0_2 < 0 then (some (s0_0, s0_1, a1)) else (some (s0_0, s0_1, s0_2))) = some (r1, r2, r3) := h
 clear h
 by_cases c3 : s0_2 < 0
 ·
  rw [if_pos c3] at H
  have c3b0 : decide (s0_2 < 0) = true := decide_eq_true c3
  clear c3
  simp only [Option.some.injEq, Prod.mk.injEq] at H
  obtain ⟨rfl, rfl, rfl⟩ := H
  obtain ⟨HGz4, hgz4⟩ := HI0.out
  have hcz4_0 := cellS206_0 HGz4
  have hcz4_1 := cellS206_1 HGz4
  have hcz4_2 := cellS206_2 HGz4
  have hfz4_0 := blk_frozen HGz4 0
  have hfz4_1 := blk_frozen HGz4 1
  have hfz4_2 := blk_frozen HGz4 2
  clear HGz4 hgz4
  go_enter Tryz.func98, Tryz.ntmps98
  go_wp2
  first | go_end0 | ((try simp only [Exit.inBlock, Exit.then]); refine bodyPost_ret (results_none rfl _ _ _) rfl ?_)
  exact ⟨by first | rfl | (simp [errW_none, errW_some] <;> rfl) | (simp [*, errW_none, errW_some] <;> rfl), by repeat (first | (with_reducible first | exact HI0.out | apply IsS206.alloc | apply IsS206.drewN | apply IsS206.drew | apply IsS206.set_0 | apply IsS206.set_1 | apply IsS206.set_2) | exact HI0.out), by repeat (first | (with_reducible first | exact HB.out | apply below_alloc | apply pw_below_drewN | apply below_drew1 | refine below_set ?_ (IsS206.ge HI0.out)) | exact HB.out), by repeat (first | (with_reducible first | exact HK.out | apply KeepBut.set_ | apply keep_drewN | apply keep_drew | apply keep_alloc) | exact HK.out)⟩
 ·
  rw [if_neg c3] at H
  have c3b0 : decide (s0_2 < 0) = false := decide_eq_false c3
  clear c3
  simp only [Option.some.injEq, Prod.mk.injEq] at H
  obtain ⟨rfl, rfl, rfl⟩ := H
  obtain ⟨HGz5, hgz5⟩ := HI0.out
  have hcz5_0 := cellS206_0 HGz5
  have hcz5_1 := cellS206_1 HGz5
  have hcz5_2 := cellS206_2 HGz5
  have hfz5_0 := blk_frozen HGz5 0
  have hfz5_1 := blk_frozen HGz5 1
  have hfz5_2 := blk_frozen HGz5 2
  clear HGz5 hgz5
  go_enter Tryz.func98, Tryz.ntmps98
  go_wp2
  first | go_end0 | ((try simp only [Exit.inBlock, Exit.then]); refine bodyPost_ret (results_none rfl _ _ _) rfl ?_)
  exact ⟨by first | rfl | (simp [errW_none, errW_some] <;> rfl) | (simp [*, errW_none, errW_some] <;> rfl), by repeat (first | (with_reducible first | exact HI0.out | apply IsS206.alloc | apply IsS206.drewN | apply IsS206.drew | apply IsS206.set_0 | apply IsS206.set_1 | apply IsS206.set_2) | exact HI0.out), by repeat (first | (with_reducible first | exact HB.out | apply below_alloc | apply pw_below_drewN | apply below_drew1 | refine below_set ?_ (IsS206.ge HI0.out)) | exact HB.out), by repeat (first | (with_reducible first | exact HK.out | apply KeepBut.set_ | apply keep_drewN | apply keep_drew | apply keep_alloc) | exact HK.out)⟩
def filter_letter.f (a0 : Int) : Option (Bool) := if a0 ≥ 97 then (some (decide (a0 ≤ 122))) else (some false)
set_option maxHeartbeats 8000000 in
theorem filter_letter.calls (a0 : Int) (r : Bool) (w : World) (h : filter_letter.f a0 = some r) :
 Calls Tryz.prog 116 #[.int .u8 a0] w fun e w' => e = .returned (.bool r) ∧ Drawn0 w w' := by
 have H : (if a0 ≥ 97 then (some (decide (a0 ≤ 122))) else (some false)) = some r := h
 clear h
 by_cases c2 : a0 ≥ 97
 ·
  rw [if_pos c2] at H
  have c2b0 : decide (97 ≤ a0) = true := decide_eq_true c2
  clear c2
  obtain rfl := Option.some.inj H
  go_enter Tryz.func116, Tryz.ntmps116
  go_wp2
  go_ret
  exact ⟨by first | rfl | (simp; done) | (simp [*]; done), by repeat (first | exact Drawn0.refl _ | apply Drawn0.step)⟩
 ·
  rw [if_neg c2] at H
  have c2b0 : decide (97 ≤ a0) = false := decide_eq_false c2
  clear c2
  obtain rfl := Option.some.inj H
  go_enter Tryz.func116, Tryz.ntmps116
  go_wp2
  go_ret
  exact ⟨by first | rfl | (simp; done) | (simp [*]; done), by repeat (first | exact Drawn0.refl _ | apply Drawn0.step)⟩
def filter_digit.f (a0 : Int) : Option (Bool) := if a0 ≥ 48 then (some (decide (a0 ≤ 57))) else (some false)
set_option maxHeartbeats 8000000 in
theorem filter_digit.calls (a0 : Int) (r : Bool) (w : World) (h : filter_digit.f a0 = some r) :
 Calls Tryz.prog 117 #[.int .u8 a0] w fun e w' => e = .returned (.bool r) ∧ Drawn0 w w' := by
 have H : (if a0 ≥ 48 then (some (decide (a0 ≤ 57))) else (some false)) = some r := h
 clear h
 by_cases c2 : a0 ≥ 48
 ·
  rw [if_pos c2] at H
  have c2b0 : decide (48 ≤ a0) = true := decide_eq_true c2
  clear c2
  obtain rfl := Option.some.inj H
  go_enter Tryz.func117, Tryz.ntmps117
  go_wp2
  go_ret
  exact ⟨by first | rfl | (simp; done) | (simp [*]; done), by repeat (first | exact Drawn0.refl _ | apply Drawn0.step)⟩
 ·
  rw [if_neg c2] at H
  have c2b0 : decide (48 ≤ a0) = false := decide_eq_false c2
  clear c2
  obtain rfl := Option.some.inj H
  go_enter Tryz.func117, Tryz.ntmps117
  go_wp2
  go_ret
  exact ⟨by first | rfl | (simp; done) | (simp [*]; done), by repeat (first | exact Drawn0.refl _ | apply Drawn0.step)⟩
def filter_parser_mark.f (k : Nat) (s0_0 : ByteArray) (s0_1 : Int) (s0_2 : Int) (a1 : ByteArray) : Option (ByteArray × Int × Int) := (filter_parser_blanks.f k s0_0 s0_1 s0_2).bind fun bt140 => (if bt140.2.2 ≥ 0 then ((filter_parser_stop.f bt140.1 bt140.2.1 bt140.2.2 bt140.2.1).bind fun bt143 => (some (bt143.1, bt143.2.1, bt143.2.2))) else (if (wrap64 ((bt140.1.size : Int) - bt140.2.1)) < (a1.size : Int) then ((filter_parser_stop.f bt140.1 bt140.2.1 bt140.2.2 bt140.2.1).bind fun bt146 => (some (bt146.1, bt146.2.1, bt146.2.2))) else (if 0 ≤ bt140.2.1 then (if bt140.2.1 ≤ (wrap64 (bt140.2.1 + (a1.size : Int))) then (if (wrap64 (bt140.2.1 + (a1.size : Int))) ≤ (bt140.1.size : Int) then (if (bt140.1.extract (bt140.2.1 : Int).toNat ((wrap64 (bt140.2.1 + (a1.size : Int))) : Int).toNat).toList = a1.toList then (some (bt140.1, wrap64 (bt140.2.1 + (a1.size : Int)), bt140.2.2)) else ((filter_parser_stop.f bt140.1 bt140.2.1 bt140.2.2 bt140.2.1).bind fun bt149 => (some (bt149.1, bt149.2.1, bt149.2.2)))) else (none)) else (none)) else (none))))
theorem filter_parser_mark.mono : ∀ a0 a1 a2 a3 k, LeO (filter_parser_mark.f k a0 a1 a2 a3) (filter_parser_mark.f (k + 1) a0 a1 a2 a3) := by
 intro a0 a1 a2 a3 k
 unfold filter_parser_mark.f
 repeat' first
  | (with_reducible exact filter_parser_blanks.mono _ _ _ _)
  | (with_reducible exact LeO.refl _)
  | (with_reducible exact LeO.none _)
  | (with_reducible refine LeO.ite ?_ ?_)
  | (with_reducible refine LeO.bind ?_ (fun _ => ?_))
  | exact filter_parser_blanks.mono _ _ _ _
  | exact LeO.none _
  | refine LeO.ite ?_ ?_
  | refine LeO.bind ?_ (fun _ => ?_)
set_option maxHeartbeats 8000000 in
theorem filter_parser_mark.calls (k : Nat) (g : Nat) (s0_0 : ByteArray) (s0_1 : Int) (s0_2 : Int) (a1 : ByteArray) (r1 : ByteArray) (r2 : Int) (r3 : Int) (w0 w : World) (hI : IsS206 w0 w g s0_0 s0_1 s0_2) (hB : Below w0.heap.size w0 w) (h : filter_parser_mark.f k s0_0 s0_1 s0_2 a1 = some (r1, r2, r3)) :
 Calls Tryz.prog 113 #[.pointer (some ⟨g, 0, none⟩), .string a1] w fun e w' => e = .returned (.tuple #[]) ∧ IsS206 w0 w' g r1 r2 r3 ∧ Below w0.heap.size w0 w' ∧ KeepBut w w' g none := by
 have HI0 := mk0 hI
 have HK := mk0 (KeepBut.refl w g none)
 have HL := mk0 hB.size
 clear hI
 have HW0 := mk0 hB.size
 have HB := mk0 hB
 clear hB
 have H : ((filter_parser_blanks.f k s0_0 s0_1 s0_2).bind fun bt140 => (if bt140.2.2 ≥ 0 then ((filter_parser_stop.f bt140.1 bt140.2.1 bt140.2.2 bt140.2.1).bind fun bt143 => (some (bt143.1, bt143.2.1, bt143.2.2))) else (if (wrap64 ((bt140.1.size : Int) - bt140.2.1)) < (a1.size : Int) then ((filter_parser_stop.f bt140.1 bt140.2.1 bt140.2.2 bt140.2.1).bind fun bt146 => (some (bt146.1, bt146.2.1, bt146.2.2))) else (if 0 ≤ bt140.2.1 then (if bt140.2.1 ≤ (wrap64 (bt140.2.1 + (a1.size : Int))) then (if (wrap64 (bt140.2.1 + (a1.size : Int))) ≤ (bt140.1.size : Int) then (if (bt140.1.extract (bt140.2.1 : Int).toNat ((wrap64 (bt140.2.1 + (a1.size : Int))) : Int).toNat).toList = a1.toList then (some (bt140.1, wrap64 (bt140.2.1 + (a1.size : Int)), bt140.2.2)) else ((filter_parser_stop.f bt140.1 bt140.2.1 bt140.2.2 bt140.2.1).bind fun bt149 => (some (bt149.1, bt149.2.1, bt149.2.2)))) else (none)) else (none)) else (none))))) = some (r1, r2, r3) := h
 clear h
 replace H := Option.bind_eq_some_iff.mp H
 obtain ⟨⟨t140, t141, t142⟩, A30, H⟩ := H
 replace H : (if t142 ≥ 0 then ((filter_parser_stop.f t140 t141 t142 t141).bind fun bt143 => (some (bt143.1, bt143.2.1, bt143.2.2))) else (if (wrap64 ((t140.size : Int) - t141)) < (a1.size : Int) then ((filter_parser_stop.f t140 t141 t142 t141).bind fun bt146 => (some (bt146.1, bt146.2.1, bt146.2.2))) else (if 0 ≤ t141 then (if t141 ≤ (wrap64 (t141 + (a1.size : Int))) then (if (wrap64 (t141 + (a1.size : Int))) ≤ (t140.size : Int) then (if (t140.extract (t141 : Int).toNat ((wrap64 (t141 + (a1.size : Int))) : Int).toNat).toList = a1.toList then (some (t140, wrap64 (t141 + (a1.size : Int)), t142)) else ((filter_parser_stop.f t140 t141 t142 t141).bind fun bt149 => (some (bt149.1, bt149.2.1, bt149.2.2)))) else (none)) else (none)) else (none)))) = some (r1, r2, r3) := H
 have A3 := mk0 A30
 clear A30
 by_cases c4 : t142 ≥ 0
 ·
  rw [if_pos c4] at H
  have c4b0 : decide (0 ≤ t142) = true := decide_eq_true c4
  clear c4
  replace H := Option.bind_eq_some_iff.mp H
  obtain ⟨⟨t143, t144, t145⟩, A50, H⟩ := H
  replace H : (some (t143, t144, t145)) = some (r1, r2, r3) := H
  have A5 := mk0 A50
  clear A50
  simp only [Option.some.injEq, Prod.mk.injEq] at H
  obtain ⟨rfl, rfl, rfl⟩ := H
  go_enter Tryz.func113, Tryz.ntmps113
  go_wp2_with (first | (go_at_call 96; (with_reducible refine (filter_parser_blanks.calls k g s0_0 s0_1 s0_2 t140 t141 t142 w0 _ ?side1 ?side2 A3.out).mono ?_); (case side1 => repeat (first | (with_reducible first | exact HI0.out | apply IsS206.alloc | apply IsS206.drewN | apply IsS206.drew | apply IsS206.set_0 | apply IsS206.set_1 | apply IsS206.set_2) | exact HI0.out)); (case side2 => repeat (first | (with_reducible first | exact HB.out | apply below_alloc | apply pw_below_drewN | apply below_drew1 | refine below_set ?_ (IsS206.ge HI0.out)) | exact HB.out)); rintro e w6 ⟨rfl, hi, hb, hk⟩; have n0_ := mk0 (KeepBut.trans (by repeat (first | (with_reducible first | exact HK.out | apply KeepBut.set_ | apply keep_drewN | apply keep_drew | apply keep_alloc) | exact HK.out)) hk (.inl rfl)); have n1_ := mk0 (hb); have n2_ := mk0 (hi); clear HK; clear HB; clear HI0; have HK := n0_; have HB := n1_; have HI0 := n2_; clear n0_ n1_ n2_; (try clear hb); (try clear hb2); (try clear hk); (try clear hi); obtain ⟨HGz7, hgz7⟩ := HI0.out; have hcz7_0 := cellS206_0 HGz7; have hcz7_1 := cellS206_1 HGz7; have hcz7_2 := cellS206_2 HGz7; have hfz7_0 := blk_frozen HGz7 0; have hfz7_1 := blk_frozen HGz7 1; have hfz7_2 := blk_frozen HGz7 2; clear HGz7 hgz7) | (go_at_call 98; (with_reducible refine (filter_parser_stop.calls g t140 t141 t142 t141 t143 t144 t145 w0 _ ?side1 ?side2 A5.out).mono ?_); (case side1 => repeat (first | (with_reducible first | exact HI0.out | apply IsS206.alloc | apply IsS206.drewN | apply IsS206.drew | apply IsS206.set_0 | apply IsS206.set_1 | apply IsS206.set_2) | exact HI0.out)); (case side2 => repeat (first | (with_reducible first | exact HB.out | apply below_alloc | apply pw_below_drewN | apply below_drew1 | refine below_set ?_ (IsS206.ge HI0.out)) | exact HB.out)); rintro e w8 ⟨rfl, hi, hb, hk⟩; have n0_ := mk0 (KeepBut.trans (by repeat (first | (with_reducible first | exact HK.out | apply KeepBut.set_ | apply keep_drewN | apply keep_drew | apply keep_alloc) | exact HK.out)) hk (.inl rfl)); have n1_ := mk0 (hb); have n2_ := mk0 (hi); clear HK; clear HB; clear HI0; have HK := n0_; have HB := n1_; have HI0 := n2_; clear n0_ n1_ n2_; (try clear hb); (try clear hb2); (try clear hk); (try clear hi)))
  repeat (go_quiet (first | (go_at_call 96; (with_reducible refine (filter_parser_blanks.calls k g s0_0 s0_1 s0_2 t140 t141 t142 w0 _ ?side1 ?side2 A3.out).mono ?_); (case side1 => repeat (first | (with_reducible first | exact HI0.out | apply IsS206.alloc | apply IsS206.drewN | apply IsS206.drew | apply IsS206.set_0 | apply IsS206.set_1 | apply IsS206.set_2) | exact HI0.out)); (case side2 => repeat (first | (with_reducible first | exact HB.out | apply below_alloc | apply pw_below_drewN | apply below_drew1 | refine below_set ?_ (IsS206.ge HI0.out)) | exact HB.out)); rintro e w6 ⟨rfl, hi, hb, hk⟩; have n0_ := mk0 (KeepBut.trans (by repeat (first | (with_reducible first | exact HK.out | apply KeepBut.set_ | apply keep_drewN | apply keep_drew | apply keep_alloc) | exact HK.out)) hk (.inl rfl)); have n1_ := mk0 (hb); have n2_ := mk0 (hi); clear HK; clear HB; clear HI0; have HK := n0_; have HB := n1_; have HI0 := n2_; clear n0_ n1_ n2_; (try clear hb); (try clear hb2); (try clear hk); (try clear hi); obtain ⟨HGz7, hgz7⟩ := HI0.out; have hcz7_0 := cellS206_0 HGz7; have hcz7_1 := cellS206_1 HGz7; have hcz7_2 := cellS206_2 HGz7; have hfz7_0 := blk_frozen HGz7 0; have hfz7_1 := blk_frozen HGz7 1; have hfz7_2 := blk_frozen HGz7 2; clear HGz7 hgz7) | (go_at_call 98; (with_reducible refine (filter_parser_stop.calls g t140 t141 t142 t141 t143 t144 t145 w0 _ ?side1 ?side2 A5.out).mono ?_); (case side1 => repeat (first | (with_reducible first | exact HI0.out | apply IsS206.alloc | apply IsS206.drewN | apply IsS206.drew | apply IsS206.set_0 | apply IsS206.set_1 | apply IsS206.set_2) | exact HI0.out)); (case side2 => repeat (first | (with_reducible first | exact HB.out | apply below_alloc | apply pw_below_drewN | apply below_drew1 | refine below_set ?_ (IsS206.ge HI0.out)) | exact HB.out)); rintro e w8 ⟨rfl, hi, hb, hk⟩; have n0_ := mk0 (KeepBut.trans (by repeat (first | (with_reducible first | exact HK.out | apply KeepBut.set_ | apply keep_drewN | apply keep_drew | apply keep_alloc) | exact HK.out)) hk (.inl rfl)); have n1_ := mk0 (hb); have n2_ := mk0 (hi); clear HK; clear HB; clear HI0; have HK := n0_; have HB := n1_; have HI0 := n2_; clear n0_ n1_ n2_; (try clear hb); (try clear hb2); (try clear hk); (try clear hi))); try go_wp2_with (first | (go_at_call 96; (with_reducible refine (filter_parser_blanks.calls k g s0_0 s0_1 s0_2 t140 t141 t142 w0 _ ?side1 ?side2 A3.out).mono ?_); (case side1 => repeat (first | (with_reducible first | exact HI0.out | apply IsS206.alloc | apply IsS206.drewN | apply IsS206.drew | apply IsS206.set_0 | apply IsS206.set_1 | apply IsS206.set_2) | exact HI0.out)); (case side2 => repeat (first | (with_reducible first | exact HB.out | apply below_alloc | apply pw_below_drewN | apply below_drew1 | refine below_set ?_ (IsS206.ge HI0.out)) | exact HB.out)); rintro e w6 ⟨rfl, hi, hb, hk⟩; have n0_ := mk0 (KeepBut.trans (by repeat (first | (with_reducible first | exact HK.out | apply KeepBut.set_ | apply keep_drewN | apply keep_drew | apply keep_alloc) | exact HK.out)) hk (.inl rfl)); have n1_ := mk0 (hb); have n2_ := mk0 (hi); clear HK; clear HB; clear HI0; have HK := n0_; have HB := n1_; have HI0 := n2_; clear n0_ n1_ n2_; (try clear hb); (try clear hb2); (try clear hk); (try clear hi); obtain ⟨HGz7, hgz7⟩ := HI0.out; have hcz7_0 := cellS206_0 HGz7; have hcz7_1 := cellS206_1 HGz7; have hcz7_2 := cellS206_2 HGz7; have hfz7_0 := blk_frozen HGz7 0; have hfz7_1 := blk_frozen HGz7 1; have hfz7_2 := blk_frozen HGz7 2; clear HGz7 hgz7) | (go_at_call 98; (with_reducible refine (filter_parser_stop.calls g t140 t141 t142 t141 t143 t144 t145 w0 _ ?side1 ?side2 A5.out).mono ?_); (case side1 => repeat (first | (with_reducible first | exact HI0.out | apply IsS206.alloc | apply IsS206.drewN | apply IsS206.drew | apply IsS206.set_0 | apply IsS206.set_1 | apply IsS206.set_2) | exact HI0.out)); (case side2 => repeat (first | (with_reducible first | exact HB.out | apply below_alloc | apply pw_below_drewN | apply below_drew1 | refine below_set ?_ (IsS206.ge HI0.out)) | exact HB.out)); rintro e w8 ⟨rfl, hi, hb, hk⟩; have n0_ := mk0 (KeepBut.trans (by repeat (first | (with_reducible first | exact HK.out | apply KeepBut.set_ | apply keep_drewN | apply keep_drew | apply keep_alloc) | exact HK.out)) hk (.inl rfl)); have n1_ := mk0 (hb); have n2_ := mk0 (hi); clear HK; clear HB; clear HI0; have HK := n0_; have HB := n1_; have HI0 := n2_; clear n0_ n1_ n2_; (try clear hb); (try clear hb2); (try clear hk); (try clear hi))))
  first | go_end0 | ((try simp only [Exit.inBlock, Exit.then]); refine bodyPost_ret (results_none rfl _ _ _) rfl ?_)
  exact ⟨by first | rfl | (simp [errW_none, errW_some] <;> rfl) | (simp [*, errW_none, errW_some] <;> rfl), by repeat (first | (with_reducible first | exact HI0.out | apply IsS206.alloc | apply IsS206.drewN | apply IsS206.drew | apply IsS206.set_0 | apply IsS206.set_1 | apply IsS206.set_2) | exact HI0.out), by repeat (first | (with_reducible first | exact HB.out | apply below_alloc | apply pw_below_drewN | apply below_drew1 | refine below_set ?_ (IsS206.ge HI0.out)) | exact HB.out), by repeat (first | (with_reducible first | exact HK.out | apply KeepBut.set_ | apply keep_drewN | apply keep_drew | apply keep_alloc) | exact HK.out)⟩
 ·
  rw [if_neg c4] at H
  have c4b0 : decide (0 ≤ t142) = false := decide_eq_false c4
  clear c4
  by_cases c9 : (wrap64 ((t140.size : Int) - t141)) < (a1.size : Int)
  ·
   rw [if_pos c9] at H
   have c9b0 : decide ((wrap64 ((t140.size : Int) - t141)) < (a1.size : Int)) = true := decide_eq_true c9
   clear c9
   replace H := Option.bind_eq_some_iff.mp H
   obtain ⟨⟨t146, t147, t148⟩, A100, H⟩ := H
   replace H : (some (t146, t147, t148)) = some (r1, r2, r3) := H
   have A10 := mk0 A100
   clear A100
   simp only [Option.some.injEq, Prod.mk.injEq] at H
   obtain ⟨rfl, rfl, rfl⟩ := H
   go_enter Tryz.func113, Tryz.ntmps113
   go_wp2_with (first | (go_at_call 96; (with_reducible refine (filter_parser_blanks.calls k g s0_0 s0_1 s0_2 t140 t141 t142 w0 _ ?side1 ?side2 A3.out).mono ?_); (case side1 => repeat (first | (with_reducible first | exact HI0.out | apply IsS206.alloc | apply IsS206.drewN | apply IsS206.drew | apply IsS206.set_0 | apply IsS206.set_1 | apply IsS206.set_2) | exact HI0.out)); (case side2 => repeat (first | (with_reducible first | exact HB.out | apply below_alloc | apply pw_below_drewN | apply below_drew1 | refine below_set ?_ (IsS206.ge HI0.out)) | exact HB.out)); rintro e w11 ⟨rfl, hi, hb, hk⟩; have n0_ := mk0 (KeepBut.trans (by repeat (first | (with_reducible first | exact HK.out | apply KeepBut.set_ | apply keep_drewN | apply keep_drew | apply keep_alloc) | exact HK.out)) hk (.inl rfl)); have n1_ := mk0 (hb); have n2_ := mk0 (hi); clear HK; clear HB; clear HI0; have HK := n0_; have HB := n1_; have HI0 := n2_; clear n0_ n1_ n2_; (try clear hb); (try clear hb2); (try clear hk); (try clear hi); obtain ⟨HGz12, hgz12⟩ := HI0.out; have hcz12_0 := cellS206_0 HGz12; have hcz12_1 := cellS206_1 HGz12; have hcz12_2 := cellS206_2 HGz12; have hfz12_0 := blk_frozen HGz12 0; have hfz12_1 := blk_frozen HGz12 1; have hfz12_2 := blk_frozen HGz12 2; clear HGz12 hgz12) | (go_at_call 98; (with_reducible refine (filter_parser_stop.calls g t140 t141 t142 t141 t146 t147 t148 w0 _ ?side1 ?side2 A10.out).mono ?_); (case side1 => repeat (first | (with_reducible first | exact HI0.out | apply IsS206.alloc | apply IsS206.drewN | apply IsS206.drew | apply IsS206.set_0 | apply IsS206.set_1 | apply IsS206.set_2) | exact HI0.out)); (case side2 => repeat (first | (with_reducible first | exact HB.out | apply below_alloc | apply pw_below_drewN | apply below_drew1 | refine below_set ?_ (IsS206.ge HI0.out)) | exact HB.out)); rintro e w13 ⟨rfl, hi, hb, hk⟩; have n0_ := mk0 (KeepBut.trans (by repeat (first | (with_reducible first | exact HK.out | apply KeepBut.set_ | apply keep_drewN | apply keep_drew | apply keep_alloc) | exact HK.out)) hk (.inl rfl)); have n1_ := mk0 (hb); have n2_ := mk0 (hi); clear HK; clear HB; clear HI0; have HK := n0_; have HB := n1_; have HI0 := n2_; clear n0_ n1_ n2_; (try clear hb); (try clear hb2); (try clear hk); (try clear hi)))
   repeat (go_quiet (first | (go_at_call 96; (with_reducible refine (filter_parser_blanks.calls k g s0_0 s0_1 s0_2 t140 t141 t142 w0 _ ?side1 ?side2 A3.out).mono ?_); (case side1 => repeat (first | (with_reducible first | exact HI0.out | apply IsS206.alloc | apply IsS206.drewN | apply IsS206.drew | apply IsS206.set_0 | apply IsS206.set_1 | apply IsS206.set_2) | exact HI0.out)); (case side2 => repeat (first | (with_reducible first | exact HB.out | apply below_alloc | apply pw_below_drewN | apply below_drew1 | refine below_set ?_ (IsS206.ge HI0.out)) | exact HB.out)); rintro e w11 ⟨rfl, hi, hb, hk⟩; have n0_ := mk0 (KeepBut.trans (by repeat (first | (with_reducible first | exact HK.out | apply KeepBut.set_ | apply keep_drewN | apply keep_drew | apply keep_alloc) | exact HK.out)) hk (.inl rfl)); have n1_ := mk0 (hb); have n2_ := mk0 (hi); clear HK; clear HB; clear HI0; have HK := n0_; have HB := n1_; have HI0 := n2_; clear n0_ n1_ n2_; (try clear hb); (try clear hb2); (try clear hk); (try clear hi); obtain ⟨HGz12, hgz12⟩ := HI0.out; have hcz12_0 := cellS206_0 HGz12; have hcz12_1 := cellS206_1 HGz12; have hcz12_2 := cellS206_2 HGz12; have hfz12_0 := blk_frozen HGz12 0; have hfz12_1 := blk_frozen HGz12 1; have hfz12_2 := blk_frozen HGz12 2; clear HGz12 hgz12) | (go_at_call 98; (with_reducible refine (filter_parser_stop.calls g t140 t141 t142 t141 t146 t147 t148 w0 _ ?side1 ?side2 A10.out).mono ?_); (case side1 => repeat (first | (with_reducible first | exact HI0.out | apply IsS206.alloc | apply IsS206.drewN | apply IsS206.drew | apply IsS206.set_0 | apply IsS206.set_1 | apply IsS206.set_2) | exact HI0.out)); (case side2 => repeat (first | (with_reducible first | exact HB.out | apply below_alloc | apply pw_below_drewN | apply below_drew1 | refine below_set ?_ (IsS206.ge HI0.out)) | exact HB.out)); rintro e w13 ⟨rfl, hi, hb, hk⟩; have n0_ := mk0 (KeepBut.trans (by repeat (first | (with_reducible first | exact HK.out | apply KeepBut.set_ | apply keep_drewN | apply keep_drew | apply keep_alloc) | exact HK.out)) hk (.inl rfl)); have n1_ := mk0 (hb); have n2_ := mk0 (hi); clear HK; clear HB; clear HI0; have HK := n0_; have HB := n1_; have HI0 := n2_; clear n0_ n1_ n2_; (try clear hb); (try clear hb2); (try clear hk); (try clear hi))); try go_wp2_with (first | (go_at_call 96; (with_reducible refine (filter_parser_blanks.calls k g s0_0 s0_1 s0_2 t140 t141 t142 w0 _ ?side1 ?side2 A3.out).mono ?_); (case side1 => repeat (first | (with_reducible first | exact HI0.out | apply IsS206.alloc | apply IsS206.drewN | apply IsS206.drew | apply IsS206.set_0 | apply IsS206.set_1 | apply IsS206.set_2) | exact HI0.out)); (case side2 => repeat (first | (with_reducible first | exact HB.out | apply below_alloc | apply pw_below_drewN | apply below_drew1 | refine below_set ?_ (IsS206.ge HI0.out)) | exact HB.out)); rintro e w11 ⟨rfl, hi, hb, hk⟩; have n0_ := mk0 (KeepBut.trans (by repeat (first | (with_reducible first | exact HK.out | apply KeepBut.set_ | apply keep_drewN | apply keep_drew | apply keep_alloc) | exact HK.out)) hk (.inl rfl)); have n1_ := mk0 (hb); have n2_ := mk0 (hi); clear HK; clear HB; clear HI0; have HK := n0_; have HB := n1_; have HI0 := n2_; clear n0_ n1_ n2_; (try clear hb); (try clear hb2); (try clear hk); (try clear hi); obtain ⟨HGz12, hgz12⟩ := HI0.out; have hcz12_0 := cellS206_0 HGz12; have hcz12_1 := cellS206_1 HGz12; have hcz12_2 := cellS206_2 HGz12; have hfz12_0 := blk_frozen HGz12 0; have hfz12_1 := blk_frozen HGz12 1; have hfz12_2 := blk_frozen HGz12 2; clear HGz12 hgz12) | (go_at_call 98; (with_reducible refine (filter_parser_stop.calls g t140 t141 t142 t141 t146 t147 t148 w0 _ ?side1 ?side2 A10.out).mono ?_); (case side1 => repeat (first | (with_reducible first | exact HI0.out | apply IsS206.alloc | apply IsS206.drewN | apply IsS206.drew | apply IsS206.set_0 | apply IsS206.set_1 | apply IsS206.set_2) | exact HI0.out)); (case side2 => repeat (first | (with_reducible first | exact HB.out | apply below_alloc | apply pw_below_drewN | apply below_drew1 | refine below_set ?_ (IsS206.ge HI0.out)) | exact HB.out)); rintro e w13 ⟨rfl, hi, hb, hk⟩; have n0_ := mk0 (KeepBut.trans (by repeat (first | (with_reducible first | exact HK.out | apply KeepBut.set_ | apply keep_drewN | apply keep_drew | apply keep_alloc) | exact HK.out)) hk (.inl rfl)); have n1_ := mk0 (hb); have n2_ := mk0 (hi); clear HK; clear HB; clear HI0; have HK := n0_; have HB := n1_; have HI0 := n2_; clear n0_ n1_ n2_; (try clear hb); (try clear hb2); (try clear hk); (try clear hi))))
   first | go_end0 | ((try simp only [Exit.inBlock, Exit.then]); refine bodyPost_ret (results_none rfl _ _ _) rfl ?_)
   exact ⟨by first | rfl | (simp [errW_none, errW_some] <;> rfl) | (simp [*, errW_none, errW_some] <;> rfl), by repeat (first | (with_reducible first | exact HI0.out | apply IsS206.alloc | apply IsS206.drewN | apply IsS206.drew | apply IsS206.set_0 | apply IsS206.set_1 | apply IsS206.set_2) | exact HI0.out), by repeat (first | (with_reducible first | exact HB.out | apply below_alloc | apply pw_below_drewN | apply below_drew1 | refine below_set ?_ (IsS206.ge HI0.out)) | exact HB.out), by repeat (first | (with_reducible first | exact HK.out | apply KeepBut.set_ | apply keep_drewN | apply keep_drew | apply keep_alloc) | exact HK.out)⟩
  ·
   rw [if_neg c9] at H
   have c9b0 : decide ((wrap64 ((t140.size : Int) - t141)) < (a1.size : Int)) = false := decide_eq_false c9
   clear c9
   by_cases c14 : 0 ≤ t141
   ·
    rw [if_pos c14] at H
    have c14b0 := eq_true c14
    have c14b1 : decide (0 ≤ t141) = true := decide_eq_true c14
    clear c14
    by_cases c15 : t141 ≤ (wrap64 (t141 + (a1.size : Int)))
    ·
     rw [if_pos c15] at H
     have c15b0 := eq_true c15
     have c15b1 : decide (t141 ≤ (wrap64 (t141 + (a1.size : Int)))) = true := decide_eq_true c15
     by_cases c16 : (wrap64 (t141 + (a1.size : Int))) ≤ (t140.size : Int)
     ·
      rw [if_pos c16] at H
      have c16b0 := eq_true c16
      have c16b1 : decide ((wrap64 (t141 + (a1.size : Int))) ≤ (t140.size : Int)) = true := decide_eq_true c16
      by_cases c17 : (t140.extract (t141 : Int).toNat ((wrap64 (t141 + (a1.size : Int))) : Int).toNat).toList = a1.toList
      ·
       rw [if_pos c17] at H
       have c17b0 : ((t140.extract (t141 : Int).toNat ((wrap64 (t141 + (a1.size : Int))) : Int).toNat).toList == a1.toList) = true := beq_iff_eq.mpr c17
       have c17b1 : ((t140.extract (t141 : Int).toNat ((wrap64 (t141 + (a1.size : Int))) : Int).toNat).toList != a1.toList) = false := bne_eq_false_iff_eq.mpr c17
       clear c17
       simp only [Option.some.injEq, Prod.mk.injEq] at H
       obtain ⟨rfl, rfl, rfl⟩ := H
       go_enter Tryz.func113, Tryz.ntmps113
       go_wp2_with (first | (go_at_call 96; (with_reducible refine (filter_parser_blanks.calls k g s0_0 s0_1 s0_2 t140 t141 t142 w0 _ ?side1 ?side2 A3.out).mono ?_); (case side1 => repeat (first | (with_reducible first | exact HI0.out | apply IsS206.alloc | apply IsS206.drewN | apply IsS206.drew | apply IsS206.set_0 | apply IsS206.set_1 | apply IsS206.set_2) | exact HI0.out)); (case side2 => repeat (first | (with_reducible first | exact HB.out | apply below_alloc | apply pw_below_drewN | apply below_drew1 | refine below_set ?_ (IsS206.ge HI0.out)) | exact HB.out)); rintro e w18 ⟨rfl, hi, hb, hk⟩; have n0_ := mk0 (KeepBut.trans (by repeat (first | (with_reducible first | exact HK.out | apply KeepBut.set_ | apply keep_drewN | apply keep_drew | apply keep_alloc) | exact HK.out)) hk (.inl rfl)); have n1_ := mk0 (hb); have n2_ := mk0 (hi); clear HK; clear HB; clear HI0; have HK := n0_; have HB := n1_; have HI0 := n2_; clear n0_ n1_ n2_; (try clear hb); (try clear hb2); (try clear hk); (try clear hi); obtain ⟨HGz19, hgz19⟩ := HI0.out; have hcz19_0 := cellS206_0 HGz19; have hcz19_1 := cellS206_1 HGz19; have hcz19_2 := cellS206_2 HGz19; have hfz19_0 := blk_frozen HGz19 0; have hfz19_1 := blk_frozen HGz19 1; have hfz19_2 := blk_frozen HGz19 2; clear HGz19 hgz19))
       repeat (go_quiet (first | (go_at_call 96; (with_reducible refine (filter_parser_blanks.calls k g s0_0 s0_1 s0_2 t140 t141 t142 w0 _ ?side1 ?side2 A3.out).mono ?_); (case side1 => repeat (first | (with_reducible first | exact HI0.out | apply IsS206.alloc | apply IsS206.drewN | apply IsS206.drew | apply IsS206.set_0 | apply IsS206.set_1 | apply IsS206.set_2) | exact HI0.out)); (case side2 => repeat (first | (with_reducible first | exact HB.out | apply below_alloc | apply pw_below_drewN | apply below_drew1 | refine below_set ?_ (IsS206.ge HI0.out)) | exact HB.out)); rintro e w18 ⟨rfl, hi, hb, hk⟩; have n0_ := mk0 (KeepBut.trans (by repeat (first | (with_reducible first | exact HK.out | apply KeepBut.set_ | apply keep_drewN | apply keep_drew | apply keep_alloc) | exact HK.out)) hk (.inl rfl)); have n1_ := mk0 (hb); have n2_ := mk0 (hi); clear HK; clear HB; clear HI0; have HK := n0_; have HB := n1_; have HI0 := n2_; clear n0_ n1_ n2_; (try clear hb); (try clear hb2); (try clear hk); (try clear hi); obtain ⟨HGz19, hgz19⟩ := HI0.out; have hcz19_0 := cellS206_0 HGz19; have hcz19_1 := cellS206_1 HGz19; have hcz19_2 := cellS206_2 HGz19; have hfz19_0 := blk_frozen HGz19 0; have hfz19_1 := blk_frozen HGz19 1; have hfz19_2 := blk_frozen HGz19 2; clear HGz19 hgz19)); try go_wp2_with (first | (go_at_call 96; (with_reducible refine (filter_parser_blanks.calls k g s0_0 s0_1 s0_2 t140 t141 t142 w0 _ ?side1 ?side2 A3.out).mono ?_); (case side1 => repeat (first | (with_reducible first | exact HI0.out | apply IsS206.alloc | apply IsS206.drewN | apply IsS206.drew | apply IsS206.set_0 | apply IsS206.set_1 | apply IsS206.set_2) | exact HI0.out)); (case side2 => repeat (first | (with_reducible first | exact HB.out | apply below_alloc | apply pw_below_drewN | apply below_drew1 | refine below_set ?_ (IsS206.ge HI0.out)) | exact HB.out)); rintro e w18 ⟨rfl, hi, hb, hk⟩; have n0_ := mk0 (KeepBut.trans (by repeat (first | (with_reducible first | exact HK.out | apply KeepBut.set_ | apply keep_drewN | apply keep_drew | apply keep_alloc) | exact HK.out)) hk (.inl rfl)); have n1_ := mk0 (hb); have n2_ := mk0 (hi); clear HK; clear HB; clear HI0; have HK := n0_; have HB := n1_; have HI0 := n2_; clear n0_ n1_ n2_; (try clear hb); (try clear hb2); (try clear hk); (try clear hi); obtain ⟨HGz19, hgz19⟩ := HI0.out; have hcz19_0 := cellS206_0 HGz19; have hcz19_1 := cellS206_1 HGz19; have hcz19_2 := cellS206_2 HGz19; have hfz19_0 := blk_frozen HGz19 0; have hfz19_1 := blk_frozen HGz19 1; have hfz19_2 := blk_frozen HGz19 2; clear HGz19 hgz19)))
       first | go_end0 | ((try simp only [Exit.inBlock, Exit.then]); refine bodyPost_ret (results_none rfl _ _ _) rfl ?_)
       exact ⟨by first | rfl | (simp [errW_none, errW_some] <;> rfl) | (simp [*, errW_none, errW_some] <;> rfl), by repeat (first | (with_reducible first | exact HI0.out | apply IsS206.alloc | apply IsS206.drewN | apply IsS206.drew | apply IsS206.set_0 | apply IsS206.set_1 | apply IsS206.set_2) | exact HI0.out), by repeat (first | (with_reducible first | exact HB.out | apply below_alloc | apply pw_below_drewN | apply below_drew1 | refine below_set ?_ (IsS206.ge HI0.out)) | exact HB.out), by repeat (first | (with_reducible first | exact HK.out | apply KeepBut.set_ | apply keep_drewN | apply keep_drew | apply keep_alloc) | exact HK.out)⟩
      ·
       rw [if_neg c17] at H
       have c17b0 : ((t140.extract (t141 : Int).toNat ((wrap64 (t141 + (a1.size : Int))) : Int).toNat).toList == a1.toList) = false := beq_eq_false_iff_ne.mpr c17
       have c17b1 : ((t140.extract (t141 : Int).toNat ((wrap64 (t141 + (a1.size : Int))) : Int).toNat).toList != a1.toList) = true := bne_iff_ne.mpr c17
       replace H := Option.bind_eq_some_iff.mp H
       obtain ⟨⟨t149, t150, t151⟩, A200, H⟩ := H
       replace H : (some (t149, t150, t151)) = some (r1, r2, r3) := H
       have A20 := mk0 A200
       clear A200
       simp only [Option.some.injEq, Prod.mk.injEq] at H
       obtain ⟨rfl, rfl, rfl⟩ := H
       go_enter Tryz.func113, Tryz.ntmps113
       go_wp2_with (first | (go_at_call 96; (with_reducible refine (filter_parser_blanks.calls k g s0_0 s0_1 s0_2 t140 t141 t142 w0 _ ?side1 ?side2 A3.out).mono ?_); (case side1 => repeat (first | (with_reducible first | exact HI0.out | apply IsS206.alloc | apply IsS206.drewN | apply IsS206.drew | apply IsS206.set_0 | apply IsS206.set_1 | apply IsS206.set_2) | exact HI0.out)); (case side2 => repeat (first | (with_reducible first | exact HB.out | apply below_alloc | apply pw_below_drewN | apply below_drew1 | refine below_set ?_ (IsS206.ge HI0.out)) | exact HB.out)); rintro e w21 ⟨rfl, hi, hb, hk⟩; have n0_ := mk0 (KeepBut.trans (by repeat (first | (with_reducible first | exact HK.out | apply KeepBut.set_ | apply keep_drewN | apply keep_drew | apply keep_alloc) | exact HK.out)) hk (.inl rfl)); have n1_ := mk0 (hb); have n2_ := mk0 (hi); clear HK; clear HB; clear HI0; have HK := n0_; have HB := n1_; have HI0 := n2_; clear n0_ n1_ n2_; (try clear hb); (try clear hb2); (try clear hk); (try clear hi); obtain ⟨HGz22, hgz22⟩ := HI0.out; have hcz22_0 := cellS206_0 HGz22; have hcz22_1 := cellS206_1 HGz22; have hcz22_2 := cellS206_2 HGz22; have hfz22_0 := blk_frozen HGz22 0; have hfz22_1 := blk_frozen HGz22 1; have hfz22_2 := blk_frozen HGz22 2; clear HGz22 hgz22) | (go_at_call 98; (with_reducible refine (filter_parser_stop.calls g t140 t141 t142 t141 t149 t150 t151 w0 _ ?side1 ?side2 A20.out).mono ?_); (case side1 => repeat (first | (with_reducible first | exact HI0.out | apply IsS206.alloc | apply IsS206.drewN | apply IsS206.drew | apply IsS206.set_0 | apply IsS206.set_1 | apply IsS206.set_2) | exact HI0.out)); (case side2 => repeat (first | (with_reducible first | exact HB.out | apply below_alloc | apply pw_below_drewN | apply below_drew1 | refine below_set ?_ (IsS206.ge HI0.out)) | exact HB.out)); rintro e w23 ⟨rfl, hi, hb, hk⟩; have n0_ := mk0 (KeepBut.trans (by repeat (first | (with_reducible first | exact HK.out | apply KeepBut.set_ | apply keep_drewN | apply keep_drew | apply keep_alloc) | exact HK.out)) hk (.inl rfl)); have n1_ := mk0 (hb); have n2_ := mk0 (hi); clear HK; clear HB; clear HI0; have HK := n0_; have HB := n1_; have HI0 := n2_; clear n0_ n1_ n2_; (try clear hb); (try clear hb2); (try clear hk); (try clear hi)))
       repeat (go_quiet (first | (go_at_call 96; (with_reducible refine (filter_parser_blanks.calls k g s0_0 s0_1 s0_2 t140 t141 t142 w0 _ ?side1 ?side2 A3.out).mono ?_); (case side1 => repeat (first | (with_reducible first | exact HI0.out | apply IsS206.alloc | apply IsS206.drewN | apply IsS206.drew | apply IsS206.set_0 | apply IsS206.set_1 | apply IsS206.set_2) | exact HI0.out)); (case side2 => repeat (first | (with_reducible first | exact HB.out | apply below_alloc | apply pw_below_drewN | apply below_drew1 | refine below_set ?_ (IsS206.ge HI0.out)) | exact HB.out)); rintro e w21 ⟨rfl, hi, hb, hk⟩; have n0_ := mk0 (KeepBut.trans (by repeat (first | (with_reducible first | exact HK.out | apply KeepBut.set_ | apply keep_drewN | apply keep_drew | apply keep_alloc) | exact HK.out)) hk (.inl rfl)); have n1_ := mk0 (hb); have n2_ := mk0 (hi); clear HK; clear HB; clear HI0; have HK := n0_; have HB := n1_; have HI0 := n2_; clear n0_ n1_ n2_; (try clear hb); (try clear hb2); (try clear hk); (try clear hi); obtain ⟨HGz22, hgz22⟩ := HI0.out; have hcz22_0 := cellS206_0 HGz22; have hcz22_1 := cellS206_1 HGz22; have hcz22_2 := cellS206_2 HGz22; have hfz22_0 := blk_frozen HGz22 0; have hfz22_1 := blk_frozen HGz22 1; have hfz22_2 := blk_frozen HGz22 2; clear HGz22 hgz22) | (go_at_call 98; (with_reducible refine (filter_parser_stop.calls g t140 t141 t142 t141 t149 t150 t151 w0 _ ?side1 ?side2 A20.out).mono ?_); (case side1 => repeat (first | (with_reducible first | exact HI0.out | apply IsS206.alloc | apply IsS206.drewN | apply IsS206.drew | apply IsS206.set_0 | apply IsS206.set_1 | apply IsS206.set_2) | exact HI0.out)); (case side2 => repeat (first | (with_reducible first | exact HB.out | apply below_alloc | apply pw_below_drewN | apply below_drew1 | refine below_set ?_ (IsS206.ge HI0.out)) | exact HB.out)); rintro e w23 ⟨rfl, hi, hb, hk⟩; have n0_ := mk0 (KeepBut.trans (by repeat (first | (with_reducible first | exact HK.out | apply KeepBut.set_ | apply keep_drewN | apply keep_drew | apply keep_alloc) | exact HK.out)) hk (.inl rfl)); have n1_ := mk0 (hb); have n2_ := mk0 (hi); clear HK; clear HB; clear HI0; have HK := n0_; have HB := n1_; have HI0 := n2_; clear n0_ n1_ n2_; (try clear hb); (try clear hb2); (try clear hk); (try clear hi))); try go_wp2_with (first | (go_at_call 96; (with_reducible refine (filter_parser_blanks.calls k g s0_0 s0_1 s0_2 t140 t141 t142 w0 _ ?side1 ?side2 A3.out).mono ?_); (case side1 => repeat (first | (with_reducible first | exact HI0.out | apply IsS206.alloc | apply IsS206.drewN | apply IsS206.drew | apply IsS206.set_0 | apply IsS206.set_1 | apply IsS206.set_2) | exact HI0.out)); (case side2 => repeat (first | (with_reducible first | exact HB.out | apply below_alloc | apply pw_below_drewN | apply below_drew1 | refine below_set ?_ (IsS206.ge HI0.out)) | exact HB.out)); rintro e w21 ⟨rfl, hi, hb, hk⟩; have n0_ := mk0 (KeepBut.trans (by repeat (first | (with_reducible first | exact HK.out | apply KeepBut.set_ | apply keep_drewN | apply keep_drew | apply keep_alloc) | exact HK.out)) hk (.inl rfl)); have n1_ := mk0 (hb); have n2_ := mk0 (hi); clear HK; clear HB; clear HI0; have HK := n0_; have HB := n1_; have HI0 := n2_; clear n0_ n1_ n2_; (try clear hb); (try clear hb2); (try clear hk); (try clear hi); obtain ⟨HGz22, hgz22⟩ := HI0.out; have hcz22_0 := cellS206_0 HGz22; have hcz22_1 := cellS206_1 HGz22; have hcz22_2 := cellS206_2 HGz22; have hfz22_0 := blk_frozen HGz22 0; have hfz22_1 := blk_frozen HGz22 1; have hfz22_2 := blk_frozen HGz22 2; clear HGz22 hgz22) | (go_at_call 98; (with_reducible refine (filter_parser_stop.calls g t140 t141 t142 t141 t149 t150 t151 w0 _ ?side1 ?side2 A20.out).mono ?_); (case side1 => repeat (first | (with_reducible first | exact HI0.out | apply IsS206.alloc | apply IsS206.drewN | apply IsS206.drew | apply IsS206.set_0 | apply IsS206.set_1 | apply IsS206.set_2) | exact HI0.out)); (case side2 => repeat (first | (with_reducible first | exact HB.out | apply below_alloc | apply pw_below_drewN | apply below_drew1 | refine below_set ?_ (IsS206.ge HI0.out)) | exact HB.out)); rintro e w23 ⟨rfl, hi, hb, hk⟩; have n0_ := mk0 (KeepBut.trans (by repeat (first | (with_reducible first | exact HK.out | apply KeepBut.set_ | apply keep_drewN | apply keep_drew | apply keep_alloc) | exact HK.out)) hk (.inl rfl)); have n1_ := mk0 (hb); have n2_ := mk0 (hi); clear HK; clear HB; clear HI0; have HK := n0_; have HB := n1_; have HI0 := n2_; clear n0_ n1_ n2_; (try clear hb); (try clear hb2); (try clear hk); (try clear hi))))
       first | go_end0 | ((try simp only [Exit.inBlock, Exit.then]); refine bodyPost_ret (results_none rfl _ _ _) rfl ?_)
       exact ⟨by first | rfl | (simp [errW_none, errW_some] <;> rfl) | (simp [*, errW_none, errW_some] <;> rfl), by repeat (first | (with_reducible first | exact HI0.out | apply IsS206.alloc | apply IsS206.drewN | apply IsS206.drew | apply IsS206.set_0 | apply IsS206.set_1 | apply IsS206.set_2) | exact HI0.out), by repeat (first | (with_reducible first | exact HB.out | apply below_alloc | apply pw_below_drewN | apply below_drew1 | refine below_set ?_ (IsS206.ge HI0.out)) | exact HB.out), by repeat (first | (with_reducible first | exact HK.out | apply KeepBut.set_ | apply keep_drewN | apply keep_drew | apply keep_alloc) | exact HK.out)⟩
     ·
      rw [if_neg c16] at H
      exact absurd H (by simp)
    ·
     rw [if_neg c15] at H
     exact absurd H (by simp)
   ·
    rw [if_neg c14] at H
    exact absurd H (by simp)
theorem info56 : (Tryz.prog.info? 56).map (fun i => (i.zero, i.size, i.bytes)) = some (some (.agg #[(.int .i64 0), (.int .i64 0)]), 2, 16) := by kernel_rfl
structure S149 where
 f0 : ByteArray
 f1 : Int
 f2 : Int
 f3 : Int
 f4 : ByteArray
def z149 : S149 := ⟨(⟨#[]⟩ : ByteArray), (0 : Int), (0 : Int), (0 : Int), (⟨#[]⟩ : ByteArray)⟩
def k149 : Kd S149 := Kd.iso (Kd.pair Kd.string (Kd.pair (Kd.int .i64) (Kd.pair (Kd.int .i64) (Kd.pair (Kd.int .i64) Kd.string)))) (fun x : S149 => (x.f0, x.f1, x.f2, x.f3, x.f4))
theorem k149_open {w : World} {x : S149} {cs : List Value} (h : k149.K w x cs) : cs = [.string x.f0, .int .i64 x.f1, .int .i64 x.f2, .int .i64 x.f3, .string x.f4] := by
 obtain ⟨_, _, rfl, rfl, ⟨_, _, rfl, rfl, ⟨_, _, rfl, rfl, ⟨_, _, rfl, rfl, rfl⟩⟩⟩⟩ := h
 exact rfl
theorem k149_mk (w : World) (x : S149)  : k149.K w x [.string x.f0, .int .i64 x.f1, .int .i64 x.f2, .int .i64 x.f3, .string x.f4] := ⟨[.string x.f0], [.int .i64 x.f1, .int .i64 x.f2, .int .i64 x.f3, .string x.f4], rfl, rfl, ⟨[.int .i64 x.f1], [.int .i64 x.f2, .int .i64 x.f3, .string x.f4], rfl, rfl, ⟨[.int .i64 x.f2], [.int .i64 x.f3, .string x.f4], rfl, rfl, ⟨[.int .i64 x.f3], [.string x.f4], rfl, rfl, rfl⟩⟩⟩⟩
theorem k149_mkM (w : World) (base : Nat) (ok : Nat → Prop) (x : S149)  : k149.M w base ok x [.string x.f0, .int .i64 x.f1, .int .i64 x.f2, .int .i64 x.f3, .string x.f4] := ⟨[.string x.f0], [.int .i64 x.f1, .int .i64 x.f2, .int .i64 x.f3, .string x.f4], rfl, rfl, ⟨[.int .i64 x.f1], [.int .i64 x.f2, .int .i64 x.f3, .string x.f4], rfl, rfl, ⟨[.int .i64 x.f2], [.int .i64 x.f3, .string x.f4], rfl, rfl, ⟨[.int .i64 x.f3], [.string x.f4], rfl, rfl, rfl⟩⟩⟩⟩
def rd_T149 (xs : List S149) (i : Int) : S149 := xs.getD i.toNat z149
theorem at_T149 {w : World} {A : Option Addr} {n : Nat} {xs : List S149} (h : Kd.C k149 w A n xs) (i : Int) (h0 : 0 ≤ i) (h1 : i < n) : ∃ ad , A = some ad ∧ w.cell? (ad.add (i.toNat * 5)) = some (.string (rd_T149 xs i).f0) ∧ w.cell? ⟨(ad.add (i.toNat * 5)).block, (ad.add (i.toNat * 5)).off + 1, none⟩ = some (.int .i64 (rd_T149 xs i).f1) ∧ w.cell? ⟨(ad.add (i.toNat * 5)).block, (ad.add (i.toNat * 5)).off + 2, none⟩ = some (.int .i64 (rd_T149 xs i).f2) ∧ w.cell? ⟨(ad.add (i.toNat * 5)).block, (ad.add (i.toNat * 5)).off + 3, none⟩ = some (.int .i64 (rd_T149 xs i).f3) ∧ w.cell? ⟨(ad.add (i.toNat * 5)).block, (ad.add (i.toNat * 5)).off + 4, none⟩ = some (.string (rd_T149 xs i).f4) := by
 obtain ⟨ad, c, e, _, hK, hc0⟩ := Kd.C_get h z149 i h0 h1
 have hc : ∀ j u, c[j]? = some u → w.cell? (ad.add (i.toNat * 5 + j)) = some u := hc0
 obtain rfl := k149_open hK
 exact ⟨ad, e, hc 0 _ rfl, by rw [← add_field _ _ 1 (by omega)]; exact hc 1 _ rfl, by rw [← add_field _ _ 2 (by omega)]; exact hc 2 _ rfl, by rw [← add_field _ _ 3 (by omega)]; exact hc 3 _ rfl, by rw [← add_field _ _ 4 (by omega)]; exact hc 4 _ rfl⟩
structure S56 where
 f0 : Int
 f1 : Int
def z56 : S56 := ⟨(0 : Int), (0 : Int)⟩
def k56 : Kd S56 := Kd.iso (Kd.pair (Kd.int .i64) (Kd.int .i64)) (fun x : S56 => (x.f0, x.f1))
theorem k56_open {w : World} {x : S56} {cs : List Value} (h : k56.K w x cs) : cs = [.int .i64 x.f0, .int .i64 x.f1] := by
 obtain ⟨_, _, rfl, rfl, rfl⟩ := h
 exact rfl
theorem k56_openM {w : World} {base : Nat} {ok : Nat → Prop} {x : S56} {cs : List Value} (h : k56.M w base ok x cs) : cs = [.int .i64 x.f0, .int .i64 x.f1] := by
 obtain ⟨_, _, rfl, rfl, rfl⟩ := h
 exact rfl
theorem k56_mkM (w : World) (base : Nat) (ok : Nat → Prop) (x : S56)  : k56.M w base ok x [.int .i64 x.f0, .int .i64 x.f1] := ⟨[.int .i64 x.f0], [.int .i64 x.f1], rfl, rfl, rfl⟩
def rd_T56 (xs : List S56) (i : Int) : S56 := xs.getD i.toNat z56
theorem at_T56 {w : World} {A : Option Addr} {n : Nat} {xs : List S56} (h : Kd.C k56 w A n xs) (i : Int) (h0 : 0 ≤ i) (h1 : i < n) : ∃ ad , A = some ad ∧ w.cell? (ad.add (i.toNat * 2)) = some (.int .i64 (rd_T56 xs i).f0) ∧ w.cell? ⟨(ad.add (i.toNat * 2)).block, (ad.add (i.toNat * 2)).off + 1, none⟩ = some (.int .i64 (rd_T56 xs i).f1) := by
 obtain ⟨ad, c, e, _, hK, hc0⟩ := Kd.C_get h z56 i h0 h1
 have hc : ∀ j u, c[j]? = some u → w.cell? (ad.add (i.toNat * 2 + j)) = some u := hc0
 obtain rfl := k56_open hK
 exact ⟨ad, e, hc 0 _ rfl, by rw [← add_field _ _ 1 (by omega)]; exact hc 1 _ rfl⟩
end Go.Proofs.YtlokmijoaocofaaGreatDoor.PBoardPlays
end
section
namespace Go.Proofs.YtlokmijoaocofaaGreatDoor.Mine
open Go.RowKit YtlokmijoaocofaaGreatDoorW.PrintWords YtlokmijoaocofaaGreatDoorW.PrintLast YtlokmijoaocofaaGreatDoorW.PrintMore
open PBoardPlays
def isLet (c : Int) : Bool := decide (97 ≤ c ∧ c ≤ 122)
def isDig (c : Int) : Bool := decide (48 ≤ c ∧ c ≤ 57)
def wordOk (s : ByteArray) (frm at_ : Nat) : Bool := isLet (bt s at_) || (decide (frm < at_) && isDig (bt s at_))
def wordGo (s : ByteArray) (frm : Nat) : Nat → Nat → Nat
 | 0, at_ => at_
 | k + 1, at_ => if at_ < s.size ∧ wordOk s frm at_ = true then wordGo s frm k (at_ + 1) else at_
theorem letter_any (c : Int) (w : World) : Calls Tryz.prog 116 #[.int .u8 c] w fun e w' => e = .returned (.bool (isLet c)) ∧ w' = w := by
 by_cases h1 : 97 ≤ c
 ·
  go_enter Tryz.func116, Tryz.ntmps116
  go_wp2
  go_ret
  exact ⟨by simp [isLet, h1], rfl⟩
 ·
  go_enter Tryz.func116, Tryz.ntmps116
  go_wp2
  go_ret
  exact ⟨by simp [isLet]; omega, rfl⟩
theorem digit_any (c : Int) (w : World) : Calls Tryz.prog 117 #[.int .u8 c] w fun e w' => e = .returned (.bool (isDig c)) ∧ w' = w := by
 by_cases h1 : 48 ≤ c
 ·
  go_enter Tryz.func117, Tryz.ntmps117
  go_wp2
  go_ret
  exact ⟨by simp [isDig, h1], rfl⟩
 ·
  go_enter Tryz.func117, Tryz.ntmps117
  go_wp2
  go_ret
  exact ⟨by simp [isDig]; omega, rfl⟩
theorem letter_is (c : Int) (b : Bool) (w : World) (h : isLet c = b) : Calls Tryz.prog 116 #[.int .u8 c] w fun e w' => e = .returned (.bool b) ∧ w' = w := by subst h; exact letter_any c w
theorem digit_is (c : Int) (b : Bool) (w : World) (h : isDig c = b) : Calls Tryz.prog 117 #[.int .u8 c] w fun e w' => e = .returned (.bool b) ∧ w' = w := by subst h; exact digit_any c w
def WordPost (w0 w : World) (g : Nat) (s : ByteArray) (frm : Nat) (e : Ending) (w' : World) : Prop :=
 ∃ en : Nat, wordGo s frm (s.size - frm) frm = en ∧ e = .returned (.string (s.extract frm en)) ∧ IsS206 w0 w' g s en (if en = frm then (frm : Int) else -1) ∧ Below w0.heap.size w0 w' ∧ KeepBut w w' g none
set_option maxHeartbeats 2000000 in
theorem word_calls (k : Nat) (g : Nat) (s : ByteArray) (at0 : Nat) (frm : Nat) (w0 w : World) (hI : IsS206 w0 w g s at0 (-1)) (hB : Below w0.heap.size w0 w) (hs : s.size ≤ 1000)
 (hbl : filter_parser_blanks.f k s at0 (-1) = some (s, (frm : Int), -1)) (hf : frm ≤ s.size) :
 Calls Tryz.prog 97 #[.pointer (some ⟨g, 0, none⟩)] w (WordPost w0 w g s frm) := by
 go_enter Tryz.func97, Tryz.ntmps97
 go_wp2_with (go_at_call 96; (with_reducible refine (filter_parser_blanks.calls k g s at0 (-1) s frm (-1) w0 _ ?side1 ?side2 hbl).mono ?_); (case side1 => exact hI); (case side2 => exact hB); rintro e w1 ⟨rfl, hi, hb, hk⟩; have HI := mk0 hi; have HB := mk0 hb; have HK := mk0 hk; have hc0 := cellS206_0 hi.1; have hc1 := cellS206_1 hi.1; clear hi hb hk)
 clear hc0 hc1
 have HS := mk0 hs
 clear hI hB hbl
 go_loopg [] (s.size - frm) (fun n wr => ∃ at_ : Nat, Aside0 (frm ≤ at_ ∧ at_ + n = s.size ∧ wordGo s frm n at_ = wordGo s frm (s.size - frm) frm) ∧ Aside0 (IsS206 w0 wr g s at_ (-1)) ∧ Aside0 (KeepBut w wr g none) ∧ Aside0 (Below w0.heap.size w0 wr))
 case atStart => exact ⟨frm, ⟨Nat.le_refl _, by omega, rfl⟩, HI, HK, HB⟩
 case round =>
  clear HI HK HB
  obtain ⟨at_, HA, HI, HK, HB⟩ := hrel
  obtain ⟨HG, hg⟩ := HI.out
  have hc0 := cellS206_0 HG
  have hc1 := cellS206_1 HG
  have hc2 := cellS206_2 HG
  have hf0 := blk_frozen HG 0
  have hf1 := blk_frozen HG 1
  have hf2 := blk_frozen HG 2
  clear HG hg
  have hlb : at_ ≤ s.size := by have := HA.out; omega
  have hfa : frm ≤ at_ := HA.out.1
  by_cases hlt : at_ < s.size
  ·
   have q1 : ((at_ : Int) < (s.size : Int)) := by omega
   have q2 := eq_true (show (0 : Int) ≤ (at_ : Int) by omega)
   have q3 := decide_eq_true q1
   replace q1 := eq_true q1
   have hx : ∀ h : at_ < s.size, ((s[at_]'h).toNat : Int) = bt s (at_ : Int) := fun h => by simp [bt, h]
   have hw : wordGo s frm (s.size - at_) at_ = if wordOk s frm at_ = true then wordGo s frm (s.size - (at_ + 1)) (at_ + 1) else at_ := by
    obtain ⟨m, hm⟩ : ∃ m, s.size - at_ = m + 1 := ⟨s.size - at_ - 1, by omega⟩
    rw [hm, show s.size - (at_ + 1) = m by omega]
    simp [wordGo, hlt]
   have HW := mk0 hw
   clear hw
   by_cases h1 : isLet (bt s at_) = true
   ·
    have HO := mk0 (show wordOk s frm at_ = true by simp [wordOk, h1])
    have H1 := mk0 h1
    clear h1
    go_wp2_with fail
    go_quiet (first | (go_at_call 116; refine Calls.quiet_of_same (letter_is _ true _ H1.out)))
    go_wp2
    go_roundg (s.size - (at_ + 1))
    case measure => have := HA.out; omega
    case rel => exact ⟨at_ + 1, ⟨by have := HA.out; omega, by have := HA.out; omega, by have h2 := HW.out; rw [if_pos HO.out] at h2; have h3 := HA.out; rw [show gk = s.size - at_ by omega] at h3; exact h2.symm.trans h3.2.2⟩, ⟨by rw [show ((at_ + 1 : Nat) : Int) = (at_ : Int) + 1 by omega]; exact IsS206.set_1 (IsS206.drewN HI.out _) _⟩, ⟨KeepBut.set_ (keep_drewN HK.out _) _ _⟩, ⟨below_set (pw_below_drewN HB.out _) (IsS206.ge HI.out)⟩⟩
   ·
    replace h1 : isLet (bt s at_) = false := by simpa using h1
    by_cases h2 : frm < at_
    ·
     have g1 := decide_eq_true (show (frm : Int) < (at_ : Int) by omega)
     have g2 := eq_true (show (frm : Int) < (at_ : Int) by omega)
     cases h3 : isDig (bt s at_) with
     | true =>
      have HO := mk0 (show wordOk s frm at_ = true by simp [wordOk, h2, h3])
      have H1 := mk0 h1
      have H3 := mk0 h3
      clear h1 h3
      go_wp2_with fail
      go_quiet (first | (go_at_call 116; refine Calls.quiet_of_same (letter_is _ false _ H1.out)) | (go_at_call 117; refine Calls.quiet_of_same (digit_is _ true _ H3.out)))
      go_wp2
      go_roundg (s.size - (at_ + 1))
      case measure => have := HA.out; omega
      case rel => exact ⟨at_ + 1, ⟨by have := HA.out; omega, by have := HA.out; omega, by have h2 := HW.out; rw [if_pos HO.out] at h2; have h3 := HA.out; rw [show gk = s.size - at_ by omega] at h3; exact h2.symm.trans h3.2.2⟩, ⟨by rw [show ((at_ + 1 : Nat) : Int) = (at_ : Int) + 1 by omega]; exact IsS206.set_1 (IsS206.drewN HI.out _) _⟩, ⟨KeepBut.set_ (keep_drewN HK.out _) _ _⟩, ⟨below_set (pw_below_drewN HB.out _) (IsS206.ge HI.out)⟩⟩
     | false =>
      have HO := mk0 (show wordOk s frm at_ = false by simp [wordOk, h1, h3])
      have H1 := mk0 h1
      have H3 := mk0 h3
      clear h1 h3
      have HE := mk0 (show wordGo s frm (s.size - frm) frm = at_ by have h3 := HA.out; rw [← h3.2.2, show gk = s.size - at_ by omega]; rw [HW.out, if_neg (by rw [HO.out]; exact Bool.false_ne_true)])
      go_wp2_with fail
      go_quiet (first | (go_at_call 116; refine Calls.quiet_of_same (letter_is _ false _ H1.out)) | (go_at_call 117; refine Calls.quiet_of_same (digit_is _ false _ H3.out)))
      have g3 := beq_eq_false_iff_ne.mpr (show (at_ : Int) ≠ (frm : Int) by omega)
      go_wp2
      go_quiet (fail)
      go_wp2
      go_ret
      exact ⟨at_, HE.out, by first | rfl | simp, by rw [if_neg (by omega)]; exact IsS206.drewN (IsS206.drewN HI.out _) _, pw_below_drewN (pw_below_drewN HB.out _) _, keep_drewN (keep_drewN HK.out _) _⟩
    ·
     have g1 := decide_eq_false (show ¬ (frm : Int) < (at_ : Int) by omega)
     have HO := mk0 (show wordOk s frm at_ = false by simp [wordOk, h1, h2])
     have H1 := mk0 h1
     clear h1
     have HE := mk0 (show wordGo s frm (s.size - frm) frm = at_ by have h3 := HA.out; rw [← h3.2.2, show gk = s.size - at_ by omega]; rw [HW.out, if_neg (by rw [HO.out]; exact Bool.false_ne_true)])
     go_wp2_with fail
     go_quiet (first | (go_at_call 116; refine Calls.quiet_of_same (letter_is _ false _ H1.out)))
     obtain rfl : frm = at_ := by omega
     go_wp2_with (go_at_call 98; (with_reducible refine (filter_parser_stop.calls g s frm (-1) frm s frm frm w0 _ ?side1 ?side2 rfl).mono ?_); (case side1 => exact IsS206.drewN HI.out _); (case side2 => exact pw_below_drewN HB.out _); rintro e w2 ⟨rfl, hi, hb, hk⟩; have HI2 := mk0 hi; have HB2 := mk0 hb; have HK2 := mk0 (KeepBut.trans (keep_drewN HK.out _) hk (Or.inl rfl)); have hd0 := cellS206_0 hi.1; have hd1 := cellS206_1 hi.1; have hd2 := cellS206_2 hi.1; clear hi hb hk)
     go_quiet (fail)
     go_wp2
     go_ret
     exact ⟨frm, HE.out, by first | rfl | simp, by rw [if_pos rfl]; exact IsS206.drewN HI2.out _, pw_below_drewN HB2.out _, keep_drewN HK2.out _⟩
  ·
   have q3 := decide_eq_false (show ¬ (at_ : Int) < (s.size : Int) by omega)
   have HE := mk0 (show wordGo s frm (s.size - frm) frm = at_ by have h3 := HA.out; rw [← h3.2.2, show gk = s.size - at_ by omega]; rw [show s.size - at_ = 0 by omega]; rfl)
   by_cases h2 : frm < at_
   ·
    go_wp2_with fail
    go_quiet (fail)
    have g3 := beq_eq_false_iff_ne.mpr (show (at_ : Int) ≠ (frm : Int) by omega)
    go_wp2
    go_quiet (fail)
    go_wp2
    go_ret
    exact ⟨at_, HE.out, by first | rfl | simp, by rw [if_neg (by omega)]; exact IsS206.drewN (IsS206.drewN HI.out _) _, pw_below_drewN (pw_below_drewN HB.out _) _, keep_drewN (keep_drewN HK.out _) _⟩
   ·
    go_wp2_with fail
    go_quiet (fail)
    obtain rfl : frm = at_ := by omega
    go_wp2_with (go_at_call 98; (with_reducible refine (filter_parser_stop.calls g s frm (-1) frm s frm frm w0 _ ?side1 ?side2 rfl).mono ?_); (case side1 => exact IsS206.drewN HI.out _); (case side2 => exact pw_below_drewN HB.out _); rintro e w2 ⟨rfl, hi, hb, hk⟩; have HI2 := mk0 hi; have HB2 := mk0 hb; have HK2 := mk0 (KeepBut.trans (keep_drewN HK.out _) hk (Or.inl rfl)); have hd0 := cellS206_0 hi.1; have hd1 := cellS206_1 hi.1; have hd2 := cellS206_2 hi.1; clear hi hb hk)
    go_quiet (fail)
    go_wp2
    go_ret
    exact ⟨frm, HE.out, by first | rfl | simp, by rw [if_pos rfl]; exact IsS206.drewN HI2.out _, pw_below_drewN HB2.out _, keep_drewN HK2.out _⟩
end Go.Proofs.YtlokmijoaocofaaGreatDoor.Mine
end
section
namespace Go.Proofs.YtlokmijoaocofaaGreatDoor.Mine
structure St where
 l : List UInt8
 bad : Option Nat
def skip : List UInt8 → List UInt8
 | [] => []
 | c :: r => if c = 32 then skip r else c :: r
def isL (c : UInt8) : Bool := decide (97 ≤ c ∧ c ≤ 122)
def isD (c : UInt8) : Bool := decide (48 ≤ c ∧ c ≤ 57)
def isA (c : UInt8) : Bool := isL c || isD c
def blanksS (st : St) : St := match st.bad with | some _ => st | none => ⟨skip st.l, none⟩
def stopS (st : St) (n : Nat) : St := match st.bad with | some _ => st | none => ⟨st.l, some n⟩
def wordL : List UInt8 → List UInt8 × St
 | [] => ([], ⟨[], some 0⟩)
 | c :: r => if isL c then (c :: r.takeWhile isA, ⟨r.dropWhile isA, none⟩) else ([], ⟨c :: r, some (r.length + 1)⟩)
def wordS (st : St) : List UInt8 × St := match st.bad with | some _ => ([], st) | none => wordL (skip st.l)
def markL (m l : List UInt8) : St := if m.isPrefixOf l then ⟨l.drop m.length, none⟩ else ⟨l, some l.length⟩
def markS (m : List UInt8) (st : St) : St := match st.bad with | some _ => st | none => markL m (skip st.l)
def textL : List UInt8 → List UInt8 → Option (List UInt8) × List UInt8
 | [], _ => (none, [])
 | c :: r, acc =>
  if c = 34 then (some acc, r)
  else if c = 92 then
   match r with
   | [] => (none, [])
   | d :: r' => if d = 34 ∨ d = 92 then textL r' (acc ++ [d]) else (none, d :: r')
  else if 32 ≤ c ∧ c ≤ 126 then textL r (acc ++ [c]) else (none, c :: r)
theorem textL_nil (acc : List UInt8) : textL [] acc = (none, []) := by rw [textL.eq_def]
theorem textL_q {c : UInt8} (r acc : List UInt8) (h : c = 34) : textL (c :: r) acc = (some acc, r) := by rw [textL.eq_def]; simp [h]
theorem textL_b0 {c : UInt8} (acc : List UInt8) (h : c = 92) : textL [c] acc = (none, []) := by rw [textL.eq_def]; simp [h]
theorem textL_b1 {c d : UInt8} (r acc : List UInt8) (h : c = 92) (h2 : d = 34 ∨ d = 92) : textL (c :: d :: r) acc = textL r (acc ++ [d]) := by rw [textL.eq_def]; simp [h, h2]
theorem textL_b2 {c d : UInt8} (r acc : List UInt8) (h : c = 92) (h2 : ¬ (d = 34 ∨ d = 92)) : textL (c :: d :: r) acc = (none, d :: r) := by rw [textL.eq_def]; simp [h, h2]
theorem textL_p {c : UInt8} (r acc : List UInt8) (h1 : ¬ c = 34) (h2 : ¬ c = 92) (h : 32 ≤ c ∧ c ≤ 126) : textL (c :: r) acc = textL r (acc ++ [c]) := by rw [textL.eq_def]; simp [h1, h2, h]
theorem textL_n {c : UInt8} (r acc : List UInt8) (h1 : ¬ c = 34) (h2 : ¬ c = 92) (h : ¬ (32 ≤ c ∧ c ≤ 126)) : textL (c :: r) acc = (none, c :: r) := by rw [textL.eq_def]; simp only [h1, h2, h]; simp
def textR : Option (List UInt8) × List UInt8 → List UInt8 × St
 | (some t, r) => (t, ⟨r, none⟩)
 | (none, r) => ([], ⟨r, some r.length⟩)
def textS (st : St) : List UInt8 × St := match (markS [34] st).bad with | some _ => ([], markS [34] st) | none => textR (textL (markS [34] st).l [])
def valD (ds : List UInt8) : Int := ds.foldl (fun n c => 10 * n + ((c.toNat : Int) - 48)) 0
def numBad (sg : Int) (d : List UInt8) : Prop := d.takeWhile isD = [] ∨ (1 < (d.takeWhile isD).length ∧ d.head? = some 48) ∨ (sg < 0 ∧ valD (d.takeWhile isD) = 0)
instance (sg : Int) (d : List UInt8) : Decidable (numBad sg d) := by unfold numBad; infer_instance
def numD (frm : Nat) (sg : Int) (d : List UInt8) : Int × St :=
 if 10 < (d.takeWhile isD).length then (0, ⟨d.drop 10, some frm⟩)
 else if numBad sg d then (sg * valD (d.takeWhile isD), ⟨d.dropWhile isD, some frm⟩)
 else (sg * valD (d.takeWhile isD), ⟨d.dropWhile isD, none⟩)
def numL : List UInt8 → Int × St
 | [] => numD 0 1 []
 | c :: r => if c = 45 then numD (r.length + 1) (-1) r else numD (r.length + 1) 1 (c :: r)
def numberS (st : St) : Int × St := match st.bad with | some _ => (0, st) | none => numL (skip st.l)
structure Pr where
 name : List UInt8
 op : Int
 lo : Int
 hi : Int
 str : List UInt8
def inS (name : List UInt8) (st : St) : Pr × St :=
 let a := wordS st
 let b := if a.1 = [105, 110] then a.2 else stopS a.2 st.l.length
 let lo := numberS b
 let c := markS [46, 46] lo.2
 let hi := numberS c
 (⟨name, 1, lo.1, hi.1, []⟩, hi.2)
def predS (st : St) : Pr × St :=
 let a := wordS st
 let b := blanksS a.2
 if b.l.head? = some 61 then
  let t := textS (markS [61] b)
  (⟨a.1, 2, 0, 0, t.1⟩, t.2)
 else if b.l.head? = some 94 then
  let t := textS (markS [94, 61] b)
  (⟨a.1, 3, 0, 0, t.1⟩, t.2)
 else inS a.1 b
theorem skip_suf (l : List UInt8) : skip l <:+ l := by
 induction l with
 | nil => exact List.suffix_refl _
 | cons c r ih =>
  unfold skip
  split
  ·
   exact ih.trans (List.suffix_cons _ _)
  ·
   exact List.suffix_refl _
theorem skip_head {l : List UInt8} : (skip l).head? ≠ some 32 := by
 induction l with
 | nil => simp [skip]
 | cons c r ih =>
  unfold skip
  split
  ·
   exact ih
  ·
   simpa using ‹_›
theorem skip_of {l : List UInt8} (h : l.head? ≠ some 32) : skip l = l := by
 cases l with
 | nil => rfl
 | cons c r => unfold skip; rw [if_neg (by simpa using h)]
theorem skip_skip (l : List UInt8) : skip (skip l) = skip l := skip_of skip_head
theorem textL_suf (l acc : List UInt8) : (textL l acc).2 <:+ l := by
 induction hn : l.length using Nat.strongRecOn generalizing l acc with
 | _ n ih =>
  match l with
  | [] => rw [textL_nil]; exact List.suffix_refl _
  | c :: r =>
   by_cases h1 : c = 34
   ·
    rw [textL_q _ _ h1]; exact List.suffix_cons _ _
   ·
    by_cases h2 : c = 92
    ·
     match r with
     | [] => rw [textL_b0 _ h2]; exact List.nil_suffix
     | d :: r' =>
      by_cases h3 : d = 34 ∨ d = 92
      ·
       rw [textL_b1 _ _ h2 h3]
       exact (ih r'.length (by simp at hn; omega) r' _ rfl).trans ((List.suffix_cons _ _).trans (List.suffix_cons _ _))
      ·
       rw [textL_b2 _ _ h2 h3]; exact List.suffix_cons _ _
    ·
     by_cases h3 : 32 ≤ c ∧ c ≤ 126
     ·
      rw [textL_p _ _ h1 h2 h3]
      exact (ih r.length (by simp at hn; omega) r _ rfl).trans (List.suffix_cons _ _)
     ·
      rw [textL_n _ _ h1 h2 h3]; exact List.suffix_refl _
def St.ok (w : List UInt8) (st : St) : Prop := st.l <:+ w ∧ ∀ n, st.bad = some n → n ≤ w.length
theorem St.ok.le {w : List UInt8} {st : St} (h : st.ok w) : st.l.length ≤ w.length := h.1.length_le
theorem blanksS_ok {w : List UInt8} {st : St} (h : st.ok w) : (blanksS st).ok w := by
 unfold blanksS
 split
 ·
  exact h
 ·
  exact ⟨(skip_suf _).trans h.1, fun n hn => by simp at hn⟩
theorem stopS_ok {w : List UInt8} {st : St} {n : Nat} (h : st.ok w) (hn : n ≤ w.length) : (stopS st n).ok w := by
 unfold stopS
 split
 ·
  exact h
 ·
  exact ⟨h.1, fun m hm => by simp at hm; omega⟩
theorem dropWhile_suf (p : UInt8 → Bool) (l : List UInt8) : l.dropWhile p <:+ l := List.dropWhile_suffix p
theorem wordL_ok {w l : List UInt8} (h : l <:+ w) : (wordL l).2.ok w := by
 unfold wordL
 split
 ·
  exact ⟨List.nil_suffix, fun n hn => by simp at hn; omega⟩
 ·
  split
  ·
   exact ⟨(dropWhile_suf _ _).trans ((List.suffix_cons _ _).trans h), fun n hn => by simp at hn⟩
  ·
   refine ⟨h, fun n hn => ?_⟩
   have := h.length_le
   simp at hn this
   omega
theorem wordS_ok {w : List UInt8} {st : St} (h : st.ok w) : (wordS st).2.ok w := by
 unfold wordS
 split
 ·
  exact h
 ·
  exact wordL_ok ((skip_suf _).trans h.1)
theorem markL_ok {w m l : List UInt8} (h : l <:+ w) : (markL m l).ok w := by
 unfold markL
 split
 ·
  exact ⟨(List.drop_suffix _ _).trans h, fun n hn => by simp at hn⟩
 ·
  exact ⟨h, fun n hn => by have := h.length_le; simp at hn; omega⟩
theorem markS_ok {w m : List UInt8} {st : St} (h : st.ok w) : (markS m st).ok w := by
 unfold markS
 split
 ·
  exact h
 ·
  exact markL_ok ((skip_suf _).trans h.1)
theorem textR_ok {w : List UInt8} {x : Option (List UInt8) × List UInt8} (h : x.2 <:+ w) : (textR x).2.ok w := by
 unfold textR
 split
 ·
  exact ⟨h, fun n hn => by simp at hn⟩
 ·
  exact ⟨h, fun n hn => by have := h.length_le; simp at hn this; omega⟩
theorem textS_ok {w : List UInt8} {st : St} (h : st.ok w) : (textS st).2.ok w := by
 unfold textS
 split
 ·
  exact markS_ok h
 ·
  exact textR_ok ((textL_suf _ _).trans (markS_ok h).1)
theorem numD_ok {w d : List UInt8} {frm : Nat} {sg : Int} (h : d <:+ w) (hf : frm ≤ w.length) : (numD frm sg d).2.ok w := by
 unfold numD
 split
 ·
  exact ⟨(List.drop_suffix _ _).trans h, fun n hn => by simp at hn; omega⟩
 ·
  split
  ·
   exact ⟨(dropWhile_suf _ _).trans h, fun n hn => by simp at hn; omega⟩
  ·
   exact ⟨(dropWhile_suf _ _).trans h, fun n hn => by simp at hn⟩
theorem numL_ok {w l : List UInt8} (h : l <:+ w) : (numL l).2.ok w := by
 have hl := h.length_le
 unfold numL
 split
 ·
  exact numD_ok h (by omega)
 ·
  simp at hl
  split
  ·
   exact numD_ok ((List.suffix_cons _ _).trans h) hl
  ·
   exact numD_ok h hl
theorem numberS_ok {w : List UInt8} {st : St} (h : st.ok w) : (numberS st).2.ok w := by
 unfold numberS
 split
 ·
  exact h
 ·
  exact numL_ok ((skip_suf _).trans h.1)
theorem inS_ok {w nm : List UInt8} {st : St} (h : st.ok w) : (inS nm st).2.ok w := by
 unfold inS
 refine numberS_ok (markS_ok (numberS_ok ?_))
 split
 ·
  exact wordS_ok h
 ·
  exact stopS_ok (wordS_ok h) h.le
theorem predS_ok {w : List UInt8} {st : St} (h : st.ok w) : (predS st).2.ok w := by
 unfold predS
 dsimp only
 split
 ·
  exact textS_ok (markS_ok (blanksS_ok (wordS_ok h)))
 ·
  split
  ·
   exact textS_ok (markS_ok (blanksS_ok (wordS_ok h)))
  ·
   exact inS_ok (blanksS_ok (wordS_ok h))
theorem wordS_bad {st : St} {n : Nat} (h : st.bad = some n) : wordS st = ([], st) := by unfold wordS; rw [h]
theorem markS_bad {m : List UInt8} {st : St} {n : Nat} (h : st.bad = some n) : markS m st = st := by unfold markS; rw [h]
theorem textS_bad {st : St} {n : Nat} (h : st.bad = some n) : textS st = ([], st) := by unfold textS; rw [markS_bad h, h]
theorem numberS_bad {st : St} {n : Nat} (h : st.bad = some n) : numberS st = (0, st) := by unfold numberS; rw [h]
theorem blanksS_bad {st : St} {n : Nat} (h : st.bad = some n) : blanksS st = st := by unfold blanksS; rw [h]
theorem stopS_bad {st : St} {n m : Nat} (h : st.bad = some n) : stopS st m = st := by unfold stopS; rw [h]
def parseS : Nat → St → List Pr → List Pr ⊕ Nat
 | 0, st, _ => .inr st.l.length
 | k + 1, st, acc =>
  let x := predS st
  let b := blanksS x.2
  match b.bad with
  | some n => .inr n
  | none =>
   if b.l = [] then .inl (acc ++ [x.1])
   else
    let a := wordS b
    let c := if a.1 = [97, 110, 100] then a.2 else stopS a.2 b.l.length
    match c.bad with
    | some n => .inr n
    | none => parseS k c (acc ++ [x.1])
end Go.Proofs.YtlokmijoaocofaaGreatDoor.Mine
end
