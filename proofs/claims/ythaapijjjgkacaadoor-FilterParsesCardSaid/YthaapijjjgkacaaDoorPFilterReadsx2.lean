-- PRINTED BY print.sh 35421559b90ae4d0a3588c463048766b98c2df88dd9212a6774a882060cdf62d: not written by this session
import Derived.Test.YthaapijjjgkacaaDoorPFilterReadsx0
namespace Go.Proofs.YthaapijjjgkacaaDoor.PFilterReads
open Go.RowKit Go.Proofs.YthaapijjjgkacaaDoorW.PrintWords Go.Proofs.YthaapijjjgkacaaDoorW.PrintLast Go.Proofs.YthaapijjjgkacaaDoorW.PrintMore
attribute [local go_sem] max2_int min2_int max_two min_two max_three min_three max_four min_four   -- for this text's walks alone
set_option linter.unusedVariables false
set_option linter.unusedSimpArgs false

/-! ### wigwaglaw01_Cut: function 11 -/
def wigwaglaw01_Cut.f (a0 : ByteArray) (a1 : Int) : Option (ByteArray) := if (a0.size : Int) > a1 then (if 0 ≤ a1 then (if a1 ≤ (a0.size : Int) then (some (a0.extract 0 (a1 : Int).toNat)) else (none)) else (none)) else (some a0)
set_option maxHeartbeats 8000000 in
set_option maxRecDepth 100000 in
theorem wigwaglaw01_Cut.calls (a0 : ByteArray) (a1 : Int) (r : ByteArray) (w : World) (h : wigwaglaw01_Cut.f a0 a1 = some r) :
    Calls Tryd.prog 11 #[.string a0, .int .i64 a1] w fun e w' => e = .returned (.string r) ∧ Drawn0 w w' := by
  have H : (if (a0.size : Int) > a1 then (if 0 ≤ a1 then (if a1 ≤ (a0.size : Int) then (some (a0.extract 0 (a1 : Int).toNat)) else (none)) else (none)) else (some a0)) = some r := h
  clear h
  by_cases c3 : (a0.size : Int) > a1
  · rw [if_pos c3] at H
    have c3b0 : decide (a1 < (a0.size : Int)) = true := decide_eq_true c3
    clear c3
    by_cases c4 : 0 ≤ a1
    · rw [if_pos c4] at H
      have c4b0 := eq_true c4
      have c4b1 : decide (0 ≤ a1) = true := decide_eq_true c4
      clear c4
      by_cases c5 : a1 ≤ (a0.size : Int)
      · rw [if_pos c5] at H
        have c5b0 := eq_true c5
        have c5b1 : decide (a1 ≤ (a0.size : Int)) = true := decide_eq_true c5
        clear c5
        obtain rfl := Option.some.inj H
        go_enter Tryd.func11, Tryd.ntmps11
        go_wp2
        go_ret
        exact ⟨by first | rfl | (simp; done) | (simp [*]; done), by repeat (first | exact Drawn0.refl _ | apply Drawn0.step)⟩
      · rw [if_neg c5] at H
        exact absurd H (by simp)
    · rw [if_neg c4] at H
      exact absurd H (by simp)
  · rw [if_neg c3] at H
    have c3b0 : decide (a1 < (a0.size : Int)) = false := decide_eq_false c3
    clear c3
    obtain rfl := Option.some.inj H
    go_enter Tryd.func11, Tryd.ntmps11
    go_wp2
    go_ret
    exact ⟨by first | rfl | (simp; done) | (simp [*]; done), by repeat (first | exact Drawn0.refl _ | apply Drawn0.step)⟩

/-- A state of type 74 at block g of W; what its slices lead to came in by w0. -/
def IsS74 (w0 W : World) (g : Nat) (f0 : ByteArray) (f1 : Int) (f2 : Int) : Prop := W.heap[g]? = some (.cells #[.string f0, .int .i64 f1, .int .i64 f2] 74 (0, 0)) ∧ w0.heap.size ≤ g
theorem IsS74.grown {w0 W : World} {g : Nat} {f0 : ByteArray} {f1 : Int} {f2 : Int} {W1 : World} {row : Option Nat} (h : IsS74 w0 W g f0 f1 f2) (hw : W.grownBy W1 row) (hne : some g ≠ row) : IsS74 w0 W1 g f0 f1 f2 := by
  obtain ⟨hb, hg⟩ := h
  exact ⟨blk_grown hb hw hne, hg⟩
theorem IsS74.own_neN {w0 W : World} {g : Nat} {f0 : ByteArray} {f1 : Int} {f2 : Int} {α : Type} {d : Kd α} {e : Nat} {base : Nat} {ok : Nat → Prop} {v : Value} {xs : List α} (h : IsS74 w0 W g f0 f1 f2) (ho : Kd.N d e W base ok v xs) (ht : e ≠ 74) : some g ≠ v.ownBlock := by
  obtain ⟨hb, hg⟩ := h
  exact Kd.N_ne ho hb ht
theorem IsS74.fresh {w0 W : World} {g : Nat} {f0 : ByteArray} {f1 : Int} {f2 : Int} (h : IsS74 w0 W g f0 f1 f2) : ∀ k, W.heap.size ≤ k → k ≠ g := by
  obtain ⟨hb, hg⟩ := h
  exact Kd.freshB hb
theorem IsS74.kept {w0 W : World} {g : Nat} {f0 : ByteArray} {f1 : Int} {f2 : Int} {W1 : World} {S : Nat → Prop} (h : IsS74 w0 W g f0 f1 f2) (hk : Kept W W1 S) (hne : ¬ S g) : IsS74 w0 W1 g f0 f1 f2 := by
  obtain ⟨hb, hg⟩ := h
  exact ⟨blk_kept hb hk hne, hg⟩
theorem IsS74.below {w0 W : World} {g : Nat} {f0 : ByteArray} {f1 : Int} {f2 : Int} {W1 : World} (h : IsS74 w0 W g f0 f1 f2) (hw : Below W.heap.size W W1) : IsS74 w0 W1 g f0 f1 f2 := h.grown (grown_of_below hw none) (by simp)
theorem IsS74.alloc {w0 W : World} {g : Nat} {f0 : ByteArray} {f1 : Int} {f2 : Int} (h : IsS74 w0 W g f0 f1 f2) (o : Obj) : IsS74 w0 (W.alloc o) g f0 f1 f2 := h.below (below_alloc (Below.refl _ _) o)
theorem IsS74.drewN {w0 W : World} {g : Nat} {f0 : ByteArray} {f1 : Int} {f2 : Int} (h : IsS74 w0 W g f0 f1 f2) (m : Nat) : IsS74 w0 (W.drewN m) g f0 f1 f2 := h
theorem IsS74.drew {w0 W : World} {g : Nat} {f0 : ByteArray} {f1 : Int} {f2 : Int} (h : IsS74 w0 W g f0 f1 f2) : IsS74 w0 W.drew g f0 f1 f2 := h
theorem IsS74.at_ {w0 W : World} {g : Nat} {f0 : ByteArray} {f1 : Int} {f2 : Int} {w' : World} {m : Nat} (hq : W.drewN m = w') (h : IsS74 w0 W g f0 f1 f2) : IsS74 w0 w' g f0 f1 f2 := by subst hq; exact IsS74.drewN h m
theorem IsS74.apart {w0 W : World} {g : Nat} {f0 : ByteArray} {f1 : Int} {f2 : Int} {α : Type} {d : Kd α} {e : Nat} {base : Nat} {ok : Nat → Prop} {v : Value} {xs : List α} (h : IsS74 w0 W g f0 f1 f2) (ho : d.R e W base ok v xs) (ht : ∀ q, q ∈ e :: d.E → q ≠ 74) : d.R e W base (fun k => ok k ∧ k ≠ g) v xs := by
  obtain ⟨hb, hg⟩ := h
  exact Kd.R_types ho hb ht
theorem IsS74.own_ne {w0 W : World} {g : Nat} {f0 : ByteArray} {f1 : Int} {f2 : Int} {α : Type} {d : Kd α} {e : Nat} {base : Nat} {ok : Nat → Prop} {v : Value} {xs : List α} (h : IsS74 w0 W g f0 f1 f2) (ho : d.R e W base ok v xs) (ht : e ≠ 74) : some g ≠ v.ownBlock := by
  obtain ⟨hb, hg⟩ := h
  exact Kd.R_ne ho hb ht
theorem IsS74.apartQ {w0 W : World} {g : Nat} {f0 : ByteArray} {f1 : Int} {f2 : Int} {α : Type} {d : Kd α} {e : Nat} {base : Nat} {ok : Nat → Prop} {v : Value} {xs : List α} (h : IsS74 w0 W g f0 f1 f2) (ho : d.Q e W base ok v xs) (ht : ∀ q, q ∈ e :: d.E → q ≠ 74) : d.Q e W base (fun k => ok k ∧ k ≠ g) v xs := by
  obtain ⟨hb, hg⟩ := h
  exact Kd.Q_types ho hb ht
theorem IsS74.own_neQ {w0 W : World} {g : Nat} {f0 : ByteArray} {f1 : Int} {f2 : Int} {α : Type} {d : Kd α} {e : Nat} {base : Nat} {ok : Nat → Prop} {v : Value} {xs : List α} (h : IsS74 w0 W g f0 f1 f2) (ho : d.Q e W base ok v xs) (ht : e ≠ 74) : some g ≠ v.ownBlock := by
  obtain ⟨hb, hg⟩ := h
  exact Kd.Q_ne ho hb ht
theorem IsS74.apartS {w0 W : World} {g : Nat} {f0 : ByteArray} {f1 : Int} {f2 : Int} {α : Type} {d : Kd α} {e : Nat} {base : Nat} {ok : Nat → Prop} {v : Value} {xs : List α} (h : IsS74 w0 W g f0 f1 f2) (ho : d.S e W base ok v xs) (ht : ∀ q, q ∈ e :: d.E → q ≠ 74) : d.S e W base (fun k => ok k ∧ k ≠ g) v xs := by
  obtain ⟨hb, hg⟩ := h
  exact Kd.S_types ho hb ht
theorem IsS74.own_neS {w0 W : World} {g : Nat} {f0 : ByteArray} {f1 : Int} {f2 : Int} {α : Type} {d : Kd α} {e : Nat} {base : Nat} {ok : Nat → Prop} {v : Value} {xs : List α} (h : IsS74 w0 W g f0 f1 f2) (ho : d.S e W base ok v xs) (ht : e ≠ 74) : some g ≠ v.ownBlock := by
  obtain ⟨hb, hg⟩ := h
  exact Kd.S_ne ho hb ht
theorem IsS74.lt {w0 W : World} {g : Nat} {f0 : ByteArray} {f1 : Int} {f2 : Int} (h : IsS74 w0 W g f0 f1 f2) : g < W.heap.size := by
  obtain ⟨hb, hg⟩ := h
  exact blk_lt hb
theorem IsS74.ge {w0 W : World} {g : Nat} {f0 : ByteArray} {f1 : Int} {f2 : Int} (h : IsS74 w0 W g f0 f1 f2) : w0.heap.size ≤ g := by
  obtain ⟨hb, hg⟩ := h
  exact hg
theorem IsS74.ne_blk {w0 W : World} {g : Nat} {f0 : ByteArray} {f1 : Int} {f2 : Int} {a : Nat} {cs : Array Value} {t : TypeId} {fr : Nat × Nat} (h : IsS74 w0 W g f0 f1 f2) (hb2 : W.heap[a]? = some (.cells cs t fr)) (ht : t ≠ 74) : g ≠ a := by
  obtain ⟨hb, hg⟩ := h
  rintro rfl
  rw [hb] at hb2
  injection hb2 with hb2
  injection hb2 with _ ht2
  exact ht ht2.symm
theorem IsS74.far {w0 W : World} {g : Nat} {f0 : ByteArray} {f1 : Int} {f2 : Int} {p : Addr} (h : IsS74 w0 W g f0 f1 f2) (hne : g ≠ p.block) (u : Value) : IsS74 w0 (W.setCell p u) g f0 f1 f2 := by
  obtain ⟨hb, hg⟩ := h
  exact ⟨blk_far hb hne u, hg⟩
theorem cellS74_0 {W : World} {g : Nat} {f0 : ByteArray} {f1 : Int} {f2 : Int} (h : W.heap[g]? = some (.cells #[.string f0, .int .i64 f1, .int .i64 f2] 74 (0, 0))) : W.cell? ⟨g, 0, none⟩ = some (.string f0) := (blk_cell h 0).trans rfl
theorem IsS74.set_0 {w0 W : World} {g : Nat} {f0 : ByteArray} {f1 : Int} {f2 : Int} (h : IsS74 w0 W g f0 f1 f2) (x : ByteArray) : IsS74 w0 (W.setCell ⟨g, 0, none⟩ (.string x)) g x f1 f2 := by
  obtain ⟨hb, hg⟩ := h
  exact ⟨by simpa using blk_set hb 0 (.string x), hg⟩
theorem cellS74_1 {W : World} {g : Nat} {f0 : ByteArray} {f1 : Int} {f2 : Int} (h : W.heap[g]? = some (.cells #[.string f0, .int .i64 f1, .int .i64 f2] 74 (0, 0))) : W.cell? ⟨g, 1, none⟩ = some (.int .i64 f1) := (blk_cell h 1).trans rfl
theorem IsS74.set_1 {w0 W : World} {g : Nat} {f0 : ByteArray} {f1 : Int} {f2 : Int} (h : IsS74 w0 W g f0 f1 f2) (x : Int) : IsS74 w0 (W.setCell ⟨g, 1, none⟩ (.int .i64 x)) g f0 x f2 := by
  obtain ⟨hb, hg⟩ := h
  exact ⟨by simpa using blk_set hb 1 (.int .i64 x), hg⟩
theorem cellS74_2 {W : World} {g : Nat} {f0 : ByteArray} {f1 : Int} {f2 : Int} (h : W.heap[g]? = some (.cells #[.string f0, .int .i64 f1, .int .i64 f2] 74 (0, 0))) : W.cell? ⟨g, 2, none⟩ = some (.int .i64 f2) := (blk_cell h 2).trans rfl
theorem IsS74.set_2 {w0 W : World} {g : Nat} {f0 : ByteArray} {f1 : Int} {f2 : Int} (h : IsS74 w0 W g f0 f1 f2) (x : Int) : IsS74 w0 (W.setCell ⟨g, 2, none⟩ (.int .i64 x)) g f0 f1 x := by
  obtain ⟨hb, hg⟩ := h
  exact ⟨by simpa using blk_set hb 2 (.int .i64 x), hg⟩
theorem IsS74.new (w0 W : World) (f0 : ByteArray) (f1 : Int) (f2 : Int) (hB : Below w0.heap.size w0 W) : IsS74 w0 (W.alloc (.cells #[.string f0, .int .i64 f1, .int .i64 f2] 74)) W.heap.size f0 f1 f2 := ⟨by simpa using heap_alloc_new W _, hB.size⟩

/-! ### filter_parser_blanks: function 34 -/
def filter_parser_blanks.l0 : Nat → ByteArray → Int → Int → Option (ByteArray × Int × Int)
  | 0, _, _, _ => none
  | k + 1, x1000, x1001, x1002 => if x1002 < 0 then (if x1001 < (x1000.size : Int) then (if 0 ≤ x1001 then (if (bt x1000 x1001) = 32 then (filter_parser_blanks.l0 k x1000 (wrap64 (x1001 + 1)) x1002) else (some (x1000, x1001, x1002))) else (none)) else (some (x1000, x1001, x1002))) else (some (x1000, x1001, x1002))
def filter_parser_blanks.f (k : Nat) (s0_0 : ByteArray) (s0_1 : Int) (s0_2 : Int) : Option (ByteArray × Int × Int) := filter_parser_blanks.l0 k s0_0 s0_1 s0_2
theorem filter_parser_blanks.mono_l : ∀ k, (∀ y0 y1 y2, LeO (filter_parser_blanks.l0 k y0 y1 y2) (filter_parser_blanks.l0 (k + 1) y0 y1 y2))
  | 0 => fun _ _ _ r h => by simp [filter_parser_blanks.l0] at h
  | k + 1 => by
    have ih0 := filter_parser_blanks.mono_l k
    · intro y0 y1 y2
      unfold filter_parser_blanks.l0
      repeat' first
      | (with_reducible exact ih0 _ _ _)
      | (with_reducible exact LeO.refl _)
      | (with_reducible exact LeO.none _)
      | (with_reducible refine LeO.ite ?_ ?_)
      | (with_reducible refine LeO.bind ?_ (fun _ => ?_))
      | exact ih0 _ _ _
      | exact LeO.none _
      | refine LeO.ite ?_ ?_
      | refine LeO.bind ?_ (fun _ => ?_)
theorem filter_parser_blanks.mono : ∀ a0 a1 a2 k, LeO (filter_parser_blanks.f k a0 a1 a2) (filter_parser_blanks.f (k + 1) a0 a1 a2) := by
  intro a0 a1 a2 k
  have ih0 := filter_parser_blanks.mono_l k
  unfold filter_parser_blanks.f
  repeat' first
      | (with_reducible exact ih0 _ _ _)
      | (with_reducible exact LeO.refl _)
      | (with_reducible exact LeO.none _)
      | (with_reducible refine LeO.ite ?_ ?_)
      | (with_reducible refine LeO.bind ?_ (fun _ => ?_))
      | exact ih0 _ _ _
      | exact LeO.none _
      | refine LeO.ite ?_ ?_
      | refine LeO.bind ?_ (fun _ => ?_)
set_option maxHeartbeats 8000000 in
set_option maxRecDepth 100000 in
theorem filter_parser_blanks.calls (k : Nat) (g : Nat) (s0_0 : ByteArray) (s0_1 : Int) (s0_2 : Int) (r1 : ByteArray) (r2 : Int) (r3 : Int) (w0 w : World) (hI : IsS74 w0 w g s0_0 s0_1 s0_2) (hB : Below w0.heap.size w0 w) (h : filter_parser_blanks.f k s0_0 s0_1 s0_2 = some (r1, r2, r3)) :
    Calls Tryd.prog 34 #[.pointer (some ⟨g, 0, none⟩)] w fun e w' => e = .returned (.tuple #[]) ∧ IsS74 w0 w' g r1 r2 r3 ∧ Below w0.heap.size w0 w' ∧ KeepBut w w' g none := by
  have HI0 := Aside0.mk hI
  have HK := Aside0.mk (KeepBut.refl w g none)
  have HL := Aside0.mk hB.size
  clear hI
  have HW0 := Aside0.mk hB.size
  have HB := Aside0.mk hB
  clear hB
  have H : (filter_parser_blanks.l0 k s0_0 s0_1 s0_2) = some (r1, r2, r3) := h
  clear h
  have H' := Aside0.mk H
  clear H
  go_enter Tryd.func34, Tryd.ntmps34
  go_wp2
  repeat (go_quiet (fail); try go_wp2)
  go_loopg [] k (fun kq w' => ∃ (x1001_1 : Int), Aside0 (filter_parser_blanks.l0 kq s0_0 x1001_1 s0_2 = some (r1, r2, r3)) ∧ Aside0 (kq ≤ k) ∧ Aside0 (IsS74 w0 w' g s0_0 x1001_1 s0_2) ∧ Aside0 (KeepBut w w' g none) ∧ Aside0 (Below w0.heap.size w0 w'))
  case atStart => exact ⟨(s0_1), H', ⟨Nat.le_refl _⟩, ⟨by repeat (first | (with_reducible first | exact HI0.out | apply IsS74.alloc | apply IsS74.drewN | apply IsS74.drew | apply IsS74.set_0 | apply IsS74.set_1 | apply IsS74.set_2) | exact HI0.out)⟩, ⟨by repeat (first | (with_reducible first | exact HK.out | apply KeepBut.set_ | apply keep_drewN | apply keep_drew | apply keep_alloc) | exact HK.out)⟩, ⟨by repeat (first | (with_reducible first | exact HB.out | apply below_alloc | apply pw_below_drewN | apply below_drew1 | refine below_set ?_ (IsS74.ge HI0.out)) | exact HB.out)⟩⟩
  case round =>
    clear H'
    obtain ⟨x1001_1, HA, HK1, HI0, HK, HB⟩ := hrel
    cases gk with
    | zero => exact absurd HA.out (by simp [filter_parser_blanks.l0])
    | succ k1 =>
      have H := HA.out
      clear HA
      simp only [filter_parser_blanks.l0] at H
      by_cases c2 : s0_2 < 0
      · rw [if_pos c2] at H
        have c2b0 : decide (s0_2 < 0) = true := decide_eq_true c2
        clear c2
        by_cases c3 : x1001_1 < (s0_0.size : Int)
        · rw [if_pos c3] at H
          have c3b0 : decide (x1001_1 < (s0_0.size : Int)) = true := decide_eq_true c3
          clear c3
          by_cases c4 : 0 ≤ x1001_1
          · rw [if_pos c4] at H
            have c4b0 : decide (0 ≤ x1001_1) = true := decide_eq_true c4
            clear c4
            by_cases c6 : (bt s0_0 x1001_1) = 32
            · rw [if_pos c6] at H
              have c6b0 : ((bt s0_0 x1001_1) == 32) = true := beq_iff_eq.mpr c6
              have c6b1 : ((bt s0_0 x1001_1) != 32) = false := bne_eq_false_iff_eq.mpr c6
              clear c6
              have H' := Aside0.mk H
              clear H
              obtain ⟨HGz7, hgz7⟩ := HI0.out
              have hcz7_0 := cellS74_0 HGz7
              have hcz7_1 := cellS74_1 HGz7
              have hcz7_2 := cellS74_2 HGz7
              have hfz7_0 := blk_frozen HGz7 0
              have hfz7_1 := blk_frozen HGz7 1
              have hfz7_2 := blk_frozen HGz7 2
              clear HGz7 hgz7
              have p5 : 0 ≤ (x1001_1 : Int) := of_decide_eq_true (by first | (with_reducible assumption) | assumption)
              have q5 : x1001_1 < (s0_0.size : Int) := of_decide_eq_true (by first | (with_reducible assumption) | assumption)
              have hx5 := bt_at s0_0 x1001_1
              replace p5 := eq_true p5
              replace q5 := eq_true q5
              go_wp2
              repeat (go_quiet (fail); try go_wp2)
              go_roundg k1
              case measure => have := HK1.out; omega
              case rel => exact ⟨(wrap64 (x1001_1 + 1)), H', ⟨by have := HK1.out; omega⟩, ⟨by repeat (first | (with_reducible first | exact HI0.out | apply IsS74.alloc | apply IsS74.drewN | apply IsS74.drew | apply IsS74.set_0 | apply IsS74.set_1 | apply IsS74.set_2) | exact HI0.out)⟩, ⟨by repeat (first | (with_reducible first | exact HK.out | apply KeepBut.set_ | apply keep_drewN | apply keep_drew | apply keep_alloc) | exact HK.out)⟩, ⟨by repeat (first | (with_reducible first | exact HB.out | apply below_alloc | apply pw_below_drewN | apply below_drew1 | refine below_set ?_ (IsS74.ge HI0.out)) | exact HB.out)⟩⟩
            · rw [if_neg c6] at H
              have c6b0 : ((bt s0_0 x1001_1) == 32) = false := beq_eq_false_iff_ne.mpr c6
              have c6b1 : ((bt s0_0 x1001_1) != 32) = true := bne_iff_ne.mpr c6
              simp only [Option.some.injEq, Prod.mk.injEq] at H
              obtain ⟨rfl, rfl, rfl⟩ := H
              obtain ⟨HGz8, hgz8⟩ := HI0.out
              have hcz8_0 := cellS74_0 HGz8
              have hcz8_1 := cellS74_1 HGz8
              have hcz8_2 := cellS74_2 HGz8
              have hfz8_0 := blk_frozen HGz8 0
              have hfz8_1 := blk_frozen HGz8 1
              have hfz8_2 := blk_frozen HGz8 2
              clear HGz8 hgz8
              have p5 : 0 ≤ (x1001_1 : Int) := of_decide_eq_true (by first | (with_reducible assumption) | assumption)
              have q5 : x1001_1 < (s0_0.size : Int) := of_decide_eq_true (by first | (with_reducible assumption) | assumption)
              have hx5 := bt_at s0_0 x1001_1
              replace p5 := eq_true p5
              replace q5 := eq_true q5
              go_wp2
              repeat (go_quiet (fail); try go_wp2)
              first | go_end0 | ((try simp only [Exit.inBlock, Exit.then]); refine bodyPost_ret (results_none rfl _ _ _) rfl ?_)
              exact ⟨by first | rfl | (simp [errW_none, errW_some] <;> rfl) | (simp [*, errW_none, errW_some] <;> rfl), by repeat (first | (with_reducible first | exact HI0.out | apply IsS74.alloc | apply IsS74.drewN | apply IsS74.drew | apply IsS74.set_0 | apply IsS74.set_1 | apply IsS74.set_2) | exact HI0.out), by repeat (first | (with_reducible first | exact HB.out | apply below_alloc | apply pw_below_drewN | apply below_drew1 | refine below_set ?_ (IsS74.ge HI0.out)) | exact HB.out), by repeat (first | (with_reducible first | exact HK.out | apply KeepBut.set_ | apply keep_drewN | apply keep_drew | apply keep_alloc) | exact HK.out)⟩
          · rw [if_neg c4] at H
            exact absurd H (by simp)
        · rw [if_neg c3] at H
          have c3b0 : decide (x1001_1 < (s0_0.size : Int)) = false := decide_eq_false c3
          clear c3
          simp only [Option.some.injEq, Prod.mk.injEq] at H
          obtain ⟨rfl, rfl, rfl⟩ := H
          obtain ⟨HGz9, hgz9⟩ := HI0.out
          have hcz9_0 := cellS74_0 HGz9
          have hcz9_1 := cellS74_1 HGz9
          have hcz9_2 := cellS74_2 HGz9
          have hfz9_0 := blk_frozen HGz9 0
          have hfz9_1 := blk_frozen HGz9 1
          have hfz9_2 := blk_frozen HGz9 2
          clear HGz9 hgz9
          go_wp2
          repeat (go_quiet (fail); try go_wp2)
          first | go_end0 | ((try simp only [Exit.inBlock, Exit.then]); refine bodyPost_ret (results_none rfl _ _ _) rfl ?_)
          exact ⟨by first | rfl | (simp [errW_none, errW_some] <;> rfl) | (simp [*, errW_none, errW_some] <;> rfl), by repeat (first | (with_reducible first | exact HI0.out | apply IsS74.alloc | apply IsS74.drewN | apply IsS74.drew | apply IsS74.set_0 | apply IsS74.set_1 | apply IsS74.set_2) | exact HI0.out), by repeat (first | (with_reducible first | exact HB.out | apply below_alloc | apply pw_below_drewN | apply below_drew1 | refine below_set ?_ (IsS74.ge HI0.out)) | exact HB.out), by repeat (first | (with_reducible first | exact HK.out | apply KeepBut.set_ | apply keep_drewN | apply keep_drew | apply keep_alloc) | exact HK.out)⟩
      · rw [if_neg c2] at H
        have c2b0 : decide (s0_2 < 0) = false := decide_eq_false c2
        clear c2
        simp only [Option.some.injEq, Prod.mk.injEq] at H
        obtain ⟨rfl, rfl, rfl⟩ := H
        obtain ⟨HGz10, hgz10⟩ := HI0.out
        have hcz10_0 := cellS74_0 HGz10
        have hcz10_1 := cellS74_1 HGz10
        have hcz10_2 := cellS74_2 HGz10
        have hfz10_0 := blk_frozen HGz10 0
        have hfz10_1 := blk_frozen HGz10 1
        have hfz10_2 := blk_frozen HGz10 2
        clear HGz10 hgz10
        go_wp2
        repeat (go_quiet (fail); try go_wp2)
        first | go_end0 | ((try simp only [Exit.inBlock, Exit.then]); refine bodyPost_ret (results_none rfl _ _ _) rfl ?_)
        exact ⟨by first | rfl | (simp [errW_none, errW_some] <;> rfl) | (simp [*, errW_none, errW_some] <;> rfl), by repeat (first | (with_reducible first | exact HI0.out | apply IsS74.alloc | apply IsS74.drewN | apply IsS74.drew | apply IsS74.set_0 | apply IsS74.set_1 | apply IsS74.set_2) | exact HI0.out), by repeat (first | (with_reducible first | exact HB.out | apply below_alloc | apply pw_below_drewN | apply below_drew1 | refine below_set ?_ (IsS74.ge HI0.out)) | exact HB.out), by repeat (first | (with_reducible first | exact HK.out | apply KeepBut.set_ | apply keep_drewN | apply keep_drew | apply keep_alloc) | exact HK.out)⟩

/-! ### filter_parser_stop: function 36 -/
def filter_parser_stop.f (s0_0 : ByteArray) (s0_1 : Int) (s0_2 : Int) (a1 : Int) : Option (ByteArray × Int × Int) := if s0_2 < 0 then (some (s0_0, s0_1, a1)) else (some (s0_0, s0_1, s0_2))
set_option maxHeartbeats 8000000 in
set_option maxRecDepth 100000 in
theorem filter_parser_stop.calls (g : Nat) (s0_0 : ByteArray) (s0_1 : Int) (s0_2 : Int) (a1 : Int) (r1 : ByteArray) (r2 : Int) (r3 : Int) (w0 w : World) (hI : IsS74 w0 w g s0_0 s0_1 s0_2) (hB : Below w0.heap.size w0 w) (h : filter_parser_stop.f s0_0 s0_1 s0_2 a1 = some (r1, r2, r3)) :
    Calls Tryd.prog 36 #[.pointer (some ⟨g, 0, none⟩), .int .i64 a1] w fun e w' => e = .returned (.tuple #[]) ∧ IsS74 w0 w' g r1 r2 r3 ∧ Below w0.heap.size w0 w' ∧ KeepBut w w' g none := by
  have HI0 := Aside0.mk hI
  have HK := Aside0.mk (KeepBut.refl w g none)
  have HL := Aside0.mk hB.size
  clear hI
  have HW0 := Aside0.mk hB.size
  have HB := Aside0.mk hB
  clear hB
  have H : (if s0_2 < 0 then (some (s0_0, s0_1, a1)) else (some (s0_0, s0_1, s0_2))) = some (r1, r2, r3) := h
  clear h
  by_cases c3 : s0_2 < 0
  · rw [if_pos c3] at H
    have c3b0 : decide (s0_2 < 0) = true := decide_eq_true c3
    clear c3
    simp only [Option.some.injEq, Prod.mk.injEq] at H
    obtain ⟨rfl, rfl, rfl⟩ := H
    obtain ⟨HGz4, hgz4⟩ := HI0.out
    have hcz4_0 := cellS74_0 HGz4
    have hcz4_1 := cellS74_1 HGz4
    have hcz4_2 := cellS74_2 HGz4
    have hfz4_0 := blk_frozen HGz4 0
    have hfz4_1 := blk_frozen HGz4 1
    have hfz4_2 := blk_frozen HGz4 2
    clear HGz4 hgz4
    go_enter Tryd.func36, Tryd.ntmps36
    go_wp2
    first | go_end0 | ((try simp only [Exit.inBlock, Exit.then]); refine bodyPost_ret (results_none rfl _ _ _) rfl ?_)
    exact ⟨by first | rfl | (simp [errW_none, errW_some] <;> rfl) | (simp [*, errW_none, errW_some] <;> rfl), by repeat (first | (with_reducible first | exact HI0.out | apply IsS74.alloc | apply IsS74.drewN | apply IsS74.drew | apply IsS74.set_0 | apply IsS74.set_1 | apply IsS74.set_2) | exact HI0.out), by repeat (first | (with_reducible first | exact HB.out | apply below_alloc | apply pw_below_drewN | apply below_drew1 | refine below_set ?_ (IsS74.ge HI0.out)) | exact HB.out), by repeat (first | (with_reducible first | exact HK.out | apply KeepBut.set_ | apply keep_drewN | apply keep_drew | apply keep_alloc) | exact HK.out)⟩
  · rw [if_neg c3] at H
    have c3b0 : decide (s0_2 < 0) = false := decide_eq_false c3
    clear c3
    simp only [Option.some.injEq, Prod.mk.injEq] at H
    obtain ⟨rfl, rfl, rfl⟩ := H
    obtain ⟨HGz5, hgz5⟩ := HI0.out
    have hcz5_0 := cellS74_0 HGz5
    have hcz5_1 := cellS74_1 HGz5
    have hcz5_2 := cellS74_2 HGz5
    have hfz5_0 := blk_frozen HGz5 0
    have hfz5_1 := blk_frozen HGz5 1
    have hfz5_2 := blk_frozen HGz5 2
    clear HGz5 hgz5
    go_enter Tryd.func36, Tryd.ntmps36
    go_wp2
    first | go_end0 | ((try simp only [Exit.inBlock, Exit.then]); refine bodyPost_ret (results_none rfl _ _ _) rfl ?_)
    exact ⟨by first | rfl | (simp [errW_none, errW_some] <;> rfl) | (simp [*, errW_none, errW_some] <;> rfl), by repeat (first | (with_reducible first | exact HI0.out | apply IsS74.alloc | apply IsS74.drewN | apply IsS74.drew | apply IsS74.set_0 | apply IsS74.set_1 | apply IsS74.set_2) | exact HI0.out), by repeat (first | (with_reducible first | exact HB.out | apply below_alloc | apply pw_below_drewN | apply below_drew1 | refine below_set ?_ (IsS74.ge HI0.out)) | exact HB.out), by repeat (first | (with_reducible first | exact HK.out | apply KeepBut.set_ | apply keep_drewN | apply keep_drew | apply keep_alloc) | exact HK.out)⟩

/-! ### filter_letter: function 65 -/
def filter_letter.f (a0 : Int) : Option (Bool) := if a0 ≥ 97 then (some (decide (a0 ≤ 122))) else (some false)
set_option maxHeartbeats 8000000 in
set_option maxRecDepth 100000 in
theorem filter_letter.calls (a0 : Int) (r : Bool) (w : World) (h : filter_letter.f a0 = some r) :
    Calls Tryd.prog 65 #[.int .u8 a0] w fun e w' => e = .returned (.bool r) ∧ Drawn0 w w' := by
  have H : (if a0 ≥ 97 then (some (decide (a0 ≤ 122))) else (some false)) = some r := h
  clear h
  by_cases c2 : a0 ≥ 97
  · rw [if_pos c2] at H
    have c2b0 : decide (97 ≤ a0) = true := decide_eq_true c2
    clear c2
    obtain rfl := Option.some.inj H
    go_enter Tryd.func65, Tryd.ntmps65
    go_wp2
    go_ret
    exact ⟨by first | rfl | (simp; done) | (simp [*]; done), by repeat (first | exact Drawn0.refl _ | apply Drawn0.step)⟩
  · rw [if_neg c2] at H
    have c2b0 : decide (97 ≤ a0) = false := decide_eq_false c2
    clear c2
    obtain rfl := Option.some.inj H
    go_enter Tryd.func65, Tryd.ntmps65
    go_wp2
    go_ret
    exact ⟨by first | rfl | (simp; done) | (simp [*]; done), by repeat (first | exact Drawn0.refl _ | apply Drawn0.step)⟩

/-! ### filter_digit: function 66 -/
def filter_digit.f (a0 : Int) : Option (Bool) := if a0 ≥ 48 then (some (decide (a0 ≤ 57))) else (some false)
set_option maxHeartbeats 8000000 in
set_option maxRecDepth 100000 in
theorem filter_digit.calls (a0 : Int) (r : Bool) (w : World) (h : filter_digit.f a0 = some r) :
    Calls Tryd.prog 66 #[.int .u8 a0] w fun e w' => e = .returned (.bool r) ∧ Drawn0 w w' := by
  have H : (if a0 ≥ 48 then (some (decide (a0 ≤ 57))) else (some false)) = some r := h
  clear h
  by_cases c2 : a0 ≥ 48
  · rw [if_pos c2] at H
    have c2b0 : decide (48 ≤ a0) = true := decide_eq_true c2
    clear c2
    obtain rfl := Option.some.inj H
    go_enter Tryd.func66, Tryd.ntmps66
    go_wp2
    go_ret
    exact ⟨by first | rfl | (simp; done) | (simp [*]; done), by repeat (first | exact Drawn0.refl _ | apply Drawn0.step)⟩
  · rw [if_neg c2] at H
    have c2b0 : decide (48 ≤ a0) = false := decide_eq_false c2
    clear c2
    obtain rfl := Option.some.inj H
    go_enter Tryd.func66, Tryd.ntmps66
    go_wp2
    go_ret
    exact ⟨by first | rfl | (simp; done) | (simp [*]; done), by repeat (first | exact Drawn0.refl _ | apply Drawn0.step)⟩

-- NOT PRINTED: function 35 (filter_parser_word)

/-! ### filter_parser_mark: function 62 -/
def filter_parser_mark.f (k : Nat) (s0_0 : ByteArray) (s0_1 : Int) (s0_2 : Int) (a1 : ByteArray) : Option (ByteArray × Int × Int) := (filter_parser_blanks.f k s0_0 s0_1 s0_2).bind fun bt118 => (if bt118.2.2 ≥ 0 then ((filter_parser_stop.f bt118.1 bt118.2.1 bt118.2.2 bt118.2.1).bind fun bt121 => (some (bt121.1, bt121.2.1, bt121.2.2))) else (if (wrap64 ((bt118.1.size : Int) - bt118.2.1)) < (a1.size : Int) then ((filter_parser_stop.f bt118.1 bt118.2.1 bt118.2.2 bt118.2.1).bind fun bt124 => (some (bt124.1, bt124.2.1, bt124.2.2))) else (if 0 ≤ bt118.2.1 then (if bt118.2.1 ≤ (wrap64 (bt118.2.1 + (a1.size : Int))) then (if (wrap64 (bt118.2.1 + (a1.size : Int))) ≤ (bt118.1.size : Int) then (if (bt118.1.extract (bt118.2.1 : Int).toNat ((wrap64 (bt118.2.1 + (a1.size : Int))) : Int).toNat).toList = a1.toList then (some (bt118.1, wrap64 (bt118.2.1 + (a1.size : Int)), bt118.2.2)) else ((filter_parser_stop.f bt118.1 bt118.2.1 bt118.2.2 bt118.2.1).bind fun bt127 => (some (bt127.1, bt127.2.1, bt127.2.2)))) else (none)) else (none)) else (none))))
theorem filter_parser_mark.mono : ∀ a0 a1 a2 a3 k, LeO (filter_parser_mark.f k a0 a1 a2 a3) (filter_parser_mark.f (k + 1) a0 a1 a2 a3) := by
  intro a0 a1 a2 a3 k
  unfold filter_parser_mark.f
  repeat' first
      | (with_reducible exact filter_parser_blanks.mono _ _ _ _)
      | (with_reducible exact LeO.refl _)
      | (with_reducible exact LeO.none _)
      | (with_reducible refine LeO.ite ?_ ?_)
      | (with_reducible refine LeO.bind ?_ (fun _ => ?_))
      | exact filter_parser_blanks.mono _ _ _ _
      | exact LeO.none _
      | refine LeO.ite ?_ ?_
      | refine LeO.bind ?_ (fun _ => ?_)
set_option maxHeartbeats 8000000 in
set_option maxRecDepth 100000 in
theorem filter_parser_mark.calls (k : Nat) (g : Nat) (s0_0 : ByteArray) (s0_1 : Int) (s0_2 : Int) (a1 : ByteArray) (r1 : ByteArray) (r2 : Int) (r3 : Int) (w0 w : World) (hI : IsS74 w0 w g s0_0 s0_1 s0_2) (hB : Below w0.heap.size w0 w) (h : filter_parser_mark.f k s0_0 s0_1 s0_2 a1 = some (r1, r2, r3)) :
    Calls Tryd.prog 62 #[.pointer (some ⟨g, 0, none⟩), .string a1] w fun e w' => e = .returned (.tuple #[]) ∧ IsS74 w0 w' g r1 r2 r3 ∧ Below w0.heap.size w0 w' ∧ KeepBut w w' g none := by
  have HI0 := Aside0.mk hI
  have HK := Aside0.mk (KeepBut.refl w g none)
  have HL := Aside0.mk hB.size
  clear hI
  have HW0 := Aside0.mk hB.size
  have HB := Aside0.mk hB
  clear hB
  have H : ((filter_parser_blanks.f k s0_0 s0_1 s0_2).bind fun bt118 => (if bt118.2.2 ≥ 0 then ((filter_parser_stop.f bt118.1 bt118.2.1 bt118.2.2 bt118.2.1).bind fun bt121 => (some (bt121.1, bt121.2.1, bt121.2.2))) else (if (wrap64 ((bt118.1.size : Int) - bt118.2.1)) < (a1.size : Int) then ((filter_parser_stop.f bt118.1 bt118.2.1 bt118.2.2 bt118.2.1).bind fun bt124 => (some (bt124.1, bt124.2.1, bt124.2.2))) else (if 0 ≤ bt118.2.1 then (if bt118.2.1 ≤ (wrap64 (bt118.2.1 + (a1.size : Int))) then (if (wrap64 (bt118.2.1 + (a1.size : Int))) ≤ (bt118.1.size : Int) then (if (bt118.1.extract (bt118.2.1 : Int).toNat ((wrap64 (bt118.2.1 + (a1.size : Int))) : Int).toNat).toList = a1.toList then (some (bt118.1, wrap64 (bt118.2.1 + (a1.size : Int)), bt118.2.2)) else ((filter_parser_stop.f bt118.1 bt118.2.1 bt118.2.2 bt118.2.1).bind fun bt127 => (some (bt127.1, bt127.2.1, bt127.2.2)))) else (none)) else (none)) else (none))))) = some (r1, r2, r3) := h
  clear h
  replace H := Option.bind_eq_some_iff.mp H
  obtain ⟨⟨t118, t119, t120⟩, A30, H⟩ := H
  replace H : (if t120 ≥ 0 then ((filter_parser_stop.f t118 t119 t120 t119).bind fun bt121 => (some (bt121.1, bt121.2.1, bt121.2.2))) else (if (wrap64 ((t118.size : Int) - t119)) < (a1.size : Int) then ((filter_parser_stop.f t118 t119 t120 t119).bind fun bt124 => (some (bt124.1, bt124.2.1, bt124.2.2))) else (if 0 ≤ t119 then (if t119 ≤ (wrap64 (t119 + (a1.size : Int))) then (if (wrap64 (t119 + (a1.size : Int))) ≤ (t118.size : Int) then (if (t118.extract (t119 : Int).toNat ((wrap64 (t119 + (a1.size : Int))) : Int).toNat).toList = a1.toList then (some (t118, wrap64 (t119 + (a1.size : Int)), t120)) else ((filter_parser_stop.f t118 t119 t120 t119).bind fun bt127 => (some (bt127.1, bt127.2.1, bt127.2.2)))) else (none)) else (none)) else (none)))) = some (r1, r2, r3) := H
  have A3 := Aside0.mk A30
  clear A30
  by_cases c4 : t120 ≥ 0
  · rw [if_pos c4] at H
    have c4b0 : decide (0 ≤ t120) = true := decide_eq_true c4
    clear c4
    replace H := Option.bind_eq_some_iff.mp H
    obtain ⟨⟨t121, t122, t123⟩, A50, H⟩ := H
    replace H : (some (t121, t122, t123)) = some (r1, r2, r3) := H
    have A5 := Aside0.mk A50
    clear A50
    simp only [Option.some.injEq, Prod.mk.injEq] at H
    obtain ⟨rfl, rfl, rfl⟩ := H
    go_enter Tryd.func62, Tryd.ntmps62
    go_wp2_with (first | (go_at_call 34; (with_reducible refine (filter_parser_blanks.calls k g s0_0 s0_1 s0_2 t118 t119 t120 w0 _ ?side1 ?side2 A3.out).mono ?_); (case side1 => repeat (first | (with_reducible first | exact HI0.out | apply IsS74.alloc | apply IsS74.drewN | apply IsS74.drew | apply IsS74.set_0 | apply IsS74.set_1 | apply IsS74.set_2) | exact HI0.out)); (case side2 => repeat (first | (with_reducible first | exact HB.out | apply below_alloc | apply pw_below_drewN | apply below_drew1 | refine below_set ?_ (IsS74.ge HI0.out)) | exact HB.out)); rintro e w6 ⟨rfl, hi, hb, hk⟩; have n0_ := Aside0.mk (KeepBut.trans (by repeat (first | (with_reducible first | exact HK.out | apply KeepBut.set_ | apply keep_drewN | apply keep_drew | apply keep_alloc) | exact HK.out)) hk (.inl rfl)); have n1_ := Aside0.mk (hb); have n2_ := Aside0.mk (hi); clear HK; clear HB; clear HI0; have HK := n0_; have HB := n1_; have HI0 := n2_; clear n0_ n1_ n2_; (try clear hb); (try clear hb2); (try clear hk); (try clear hi); obtain ⟨HGz7, hgz7⟩ := HI0.out; have hcz7_0 := cellS74_0 HGz7; have hcz7_1 := cellS74_1 HGz7; have hcz7_2 := cellS74_2 HGz7; have hfz7_0 := blk_frozen HGz7 0; have hfz7_1 := blk_frozen HGz7 1; have hfz7_2 := blk_frozen HGz7 2; clear HGz7 hgz7) | (go_at_call 36; (with_reducible refine (filter_parser_stop.calls g t118 t119 t120 t119 t121 t122 t123 w0 _ ?side1 ?side2 A5.out).mono ?_); (case side1 => repeat (first | (with_reducible first | exact HI0.out | apply IsS74.alloc | apply IsS74.drewN | apply IsS74.drew | apply IsS74.set_0 | apply IsS74.set_1 | apply IsS74.set_2) | exact HI0.out)); (case side2 => repeat (first | (with_reducible first | exact HB.out | apply below_alloc | apply pw_below_drewN | apply below_drew1 | refine below_set ?_ (IsS74.ge HI0.out)) | exact HB.out)); rintro e w8 ⟨rfl, hi, hb, hk⟩; have n0_ := Aside0.mk (KeepBut.trans (by repeat (first | (with_reducible first | exact HK.out | apply KeepBut.set_ | apply keep_drewN | apply keep_drew | apply keep_alloc) | exact HK.out)) hk (.inl rfl)); have n1_ := Aside0.mk (hb); have n2_ := Aside0.mk (hi); clear HK; clear HB; clear HI0; have HK := n0_; have HB := n1_; have HI0 := n2_; clear n0_ n1_ n2_; (try clear hb); (try clear hb2); (try clear hk); (try clear hi)))
    repeat (go_quiet (first | (go_at_call 34; (with_reducible refine (filter_parser_blanks.calls k g s0_0 s0_1 s0_2 t118 t119 t120 w0 _ ?side1 ?side2 A3.out).mono ?_); (case side1 => repeat (first | (with_reducible first | exact HI0.out | apply IsS74.alloc | apply IsS74.drewN | apply IsS74.drew | apply IsS74.set_0 | apply IsS74.set_1 | apply IsS74.set_2) | exact HI0.out)); (case side2 => repeat (first | (with_reducible first | exact HB.out | apply below_alloc | apply pw_below_drewN | apply below_drew1 | refine below_set ?_ (IsS74.ge HI0.out)) | exact HB.out)); rintro e w6 ⟨rfl, hi, hb, hk⟩; have n0_ := Aside0.mk (KeepBut.trans (by repeat (first | (with_reducible first | exact HK.out | apply KeepBut.set_ | apply keep_drewN | apply keep_drew | apply keep_alloc) | exact HK.out)) hk (.inl rfl)); have n1_ := Aside0.mk (hb); have n2_ := Aside0.mk (hi); clear HK; clear HB; clear HI0; have HK := n0_; have HB := n1_; have HI0 := n2_; clear n0_ n1_ n2_; (try clear hb); (try clear hb2); (try clear hk); (try clear hi); obtain ⟨HGz7, hgz7⟩ := HI0.out; have hcz7_0 := cellS74_0 HGz7; have hcz7_1 := cellS74_1 HGz7; have hcz7_2 := cellS74_2 HGz7; have hfz7_0 := blk_frozen HGz7 0; have hfz7_1 := blk_frozen HGz7 1; have hfz7_2 := blk_frozen HGz7 2; clear HGz7 hgz7) | (go_at_call 36; (with_reducible refine (filter_parser_stop.calls g t118 t119 t120 t119 t121 t122 t123 w0 _ ?side1 ?side2 A5.out).mono ?_); (case side1 => repeat (first | (with_reducible first | exact HI0.out | apply IsS74.alloc | apply IsS74.drewN | apply IsS74.drew | apply IsS74.set_0 | apply IsS74.set_1 | apply IsS74.set_2) | exact HI0.out)); (case side2 => repeat (first | (with_reducible first | exact HB.out | apply below_alloc | apply pw_below_drewN | apply below_drew1 | refine below_set ?_ (IsS74.ge HI0.out)) | exact HB.out)); rintro e w8 ⟨rfl, hi, hb, hk⟩; have n0_ := Aside0.mk (KeepBut.trans (by repeat (first | (with_reducible first | exact HK.out | apply KeepBut.set_ | apply keep_drewN | apply keep_drew | apply keep_alloc) | exact HK.out)) hk (.inl rfl)); have n1_ := Aside0.mk (hb); have n2_ := Aside0.mk (hi); clear HK; clear HB; clear HI0; have HK := n0_; have HB := n1_; have HI0 := n2_; clear n0_ n1_ n2_; (try clear hb); (try clear hb2); (try clear hk); (try clear hi))); try go_wp2_with (first | (go_at_call 34; (with_reducible refine (filter_parser_blanks.calls k g s0_0 s0_1 s0_2 t118 t119 t120 w0 _ ?side1 ?side2 A3.out).mono ?_); (case side1 => repeat (first | (with_reducible first | exact HI0.out | apply IsS74.alloc | apply IsS74.drewN | apply IsS74.drew | apply IsS74.set_0 | apply IsS74.set_1 | apply IsS74.set_2) | exact HI0.out)); (case side2 => repeat (first | (with_reducible first | exact HB.out | apply below_alloc | apply pw_below_drewN | apply below_drew1 | refine below_set ?_ (IsS74.ge HI0.out)) | exact HB.out)); rintro e w6 ⟨rfl, hi, hb, hk⟩; have n0_ := Aside0.mk (KeepBut.trans (by repeat (first | (with_reducible first | exact HK.out | apply KeepBut.set_ | apply keep_drewN | apply keep_drew | apply keep_alloc) | exact HK.out)) hk (.inl rfl)); have n1_ := Aside0.mk (hb); have n2_ := Aside0.mk (hi); clear HK; clear HB; clear HI0; have HK := n0_; have HB := n1_; have HI0 := n2_; clear n0_ n1_ n2_; (try clear hb); (try clear hb2); (try clear hk); (try clear hi); obtain ⟨HGz7, hgz7⟩ := HI0.out; have hcz7_0 := cellS74_0 HGz7; have hcz7_1 := cellS74_1 HGz7; have hcz7_2 := cellS74_2 HGz7; have hfz7_0 := blk_frozen HGz7 0; have hfz7_1 := blk_frozen HGz7 1; have hfz7_2 := blk_frozen HGz7 2; clear HGz7 hgz7) | (go_at_call 36; (with_reducible refine (filter_parser_stop.calls g t118 t119 t120 t119 t121 t122 t123 w0 _ ?side1 ?side2 A5.out).mono ?_); (case side1 => repeat (first | (with_reducible first | exact HI0.out | apply IsS74.alloc | apply IsS74.drewN | apply IsS74.drew | apply IsS74.set_0 | apply IsS74.set_1 | apply IsS74.set_2) | exact HI0.out)); (case side2 => repeat (first | (with_reducible first | exact HB.out | apply below_alloc | apply pw_below_drewN | apply below_drew1 | refine below_set ?_ (IsS74.ge HI0.out)) | exact HB.out)); rintro e w8 ⟨rfl, hi, hb, hk⟩; have n0_ := Aside0.mk (KeepBut.trans (by repeat (first | (with_reducible first | exact HK.out | apply KeepBut.set_ | apply keep_drewN | apply keep_drew | apply keep_alloc) | exact HK.out)) hk (.inl rfl)); have n1_ := Aside0.mk (hb); have n2_ := Aside0.mk (hi); clear HK; clear HB; clear HI0; have HK := n0_; have HB := n1_; have HI0 := n2_; clear n0_ n1_ n2_; (try clear hb); (try clear hb2); (try clear hk); (try clear hi))))
    first | go_end0 | ((try simp only [Exit.inBlock, Exit.then]); refine bodyPost_ret (results_none rfl _ _ _) rfl ?_)
    exact ⟨by first | rfl | (simp [errW_none, errW_some] <;> rfl) | (simp [*, errW_none, errW_some] <;> rfl), by repeat (first | (with_reducible first | exact HI0.out | apply IsS74.alloc | apply IsS74.drewN | apply IsS74.drew | apply IsS74.set_0 | apply IsS74.set_1 | apply IsS74.set_2) | exact HI0.out), by repeat (first | (with_reducible first | exact HB.out | apply below_alloc | apply pw_below_drewN | apply below_drew1 | refine below_set ?_ (IsS74.ge HI0.out)) | exact HB.out), by repeat (first | (with_reducible first | exact HK.out | apply KeepBut.set_ | apply keep_drewN | apply keep_drew | apply keep_alloc) | exact HK.out)⟩
  · rw [if_neg c4] at H
    have c4b0 : decide (0 ≤ t120) = false := decide_eq_false c4
    clear c4
    by_cases c9 : (wrap64 ((t118.size : Int) - t119)) < (a1.size : Int)
    · rw [if_pos c9] at H
      have c9b0 : decide ((wrap64 ((t118.size : Int) - t119)) < (a1.size : Int)) = true := decide_eq_true c9
      clear c9
      replace H := Option.bind_eq_some_iff.mp H
      obtain ⟨⟨t124, t125, t126⟩, A100, H⟩ := H
      replace H : (some (t124, t125, t126)) = some (r1, r2, r3) := H
      have A10 := Aside0.mk A100
      clear A100
      simp only [Option.some.injEq, Prod.mk.injEq] at H
      obtain ⟨rfl, rfl, rfl⟩ := H
      go_enter Tryd.func62, Tryd.ntmps62
      go_wp2_with (first | (go_at_call 34; (with_reducible refine (filter_parser_blanks.calls k g s0_0 s0_1 s0_2 t118 t119 t120 w0 _ ?side1 ?side2 A3.out).mono ?_); (case side1 => repeat (first | (with_reducible first | exact HI0.out | apply IsS74.alloc | apply IsS74.drewN | apply IsS74.drew | apply IsS74.set_0 | apply IsS74.set_1 | apply IsS74.set_2) | exact HI0.out)); (case side2 => repeat (first | (with_reducible first | exact HB.out | apply below_alloc | apply pw_below_drewN | apply below_drew1 | refine below_set ?_ (IsS74.ge HI0.out)) | exact HB.out)); rintro e w11 ⟨rfl, hi, hb, hk⟩; have n0_ := Aside0.mk (KeepBut.trans (by repeat (first | (with_reducible first | exact HK.out | apply KeepBut.set_ | apply keep_drewN | apply keep_drew | apply keep_alloc) | exact HK.out)) hk (.inl rfl)); have n1_ := Aside0.mk (hb); have n2_ := Aside0.mk (hi); clear HK; clear HB; clear HI0; have HK := n0_; have HB := n1_; have HI0 := n2_; clear n0_ n1_ n2_; (try clear hb); (try clear hb2); (try clear hk); (try clear hi); obtain ⟨HGz12, hgz12⟩ := HI0.out; have hcz12_0 := cellS74_0 HGz12; have hcz12_1 := cellS74_1 HGz12; have hcz12_2 := cellS74_2 HGz12; have hfz12_0 := blk_frozen HGz12 0; have hfz12_1 := blk_frozen HGz12 1; have hfz12_2 := blk_frozen HGz12 2; clear HGz12 hgz12) | (go_at_call 36; (with_reducible refine (filter_parser_stop.calls g t118 t119 t120 t119 t124 t125 t126 w0 _ ?side1 ?side2 A10.out).mono ?_); (case side1 => repeat (first | (with_reducible first | exact HI0.out | apply IsS74.alloc | apply IsS74.drewN | apply IsS74.drew | apply IsS74.set_0 | apply IsS74.set_1 | apply IsS74.set_2) | exact HI0.out)); (case side2 => repeat (first | (with_reducible first | exact HB.out | apply below_alloc | apply pw_below_drewN | apply below_drew1 | refine below_set ?_ (IsS74.ge HI0.out)) | exact HB.out)); rintro e w13 ⟨rfl, hi, hb, hk⟩; have n0_ := Aside0.mk (KeepBut.trans (by repeat (first | (with_reducible first | exact HK.out | apply KeepBut.set_ | apply keep_drewN | apply keep_drew | apply keep_alloc) | exact HK.out)) hk (.inl rfl)); have n1_ := Aside0.mk (hb); have n2_ := Aside0.mk (hi); clear HK; clear HB; clear HI0; have HK := n0_; have HB := n1_; have HI0 := n2_; clear n0_ n1_ n2_; (try clear hb); (try clear hb2); (try clear hk); (try clear hi)))
      repeat (go_quiet (first | (go_at_call 34; (with_reducible refine (filter_parser_blanks.calls k g s0_0 s0_1 s0_2 t118 t119 t120 w0 _ ?side1 ?side2 A3.out).mono ?_); (case side1 => repeat (first | (with_reducible first | exact HI0.out | apply IsS74.alloc | apply IsS74.drewN | apply IsS74.drew | apply IsS74.set_0 | apply IsS74.set_1 | apply IsS74.set_2) | exact HI0.out)); (case side2 => repeat (first | (with_reducible first | exact HB.out | apply below_alloc | apply pw_below_drewN | apply below_drew1 | refine below_set ?_ (IsS74.ge HI0.out)) | exact HB.out)); rintro e w11 ⟨rfl, hi, hb, hk⟩; have n0_ := Aside0.mk (KeepBut.trans (by repeat (first | (with_reducible first | exact HK.out | apply KeepBut.set_ | apply keep_drewN | apply keep_drew | apply keep_alloc) | exact HK.out)) hk (.inl rfl)); have n1_ := Aside0.mk (hb); have n2_ := Aside0.mk (hi); clear HK; clear HB; clear HI0; have HK := n0_; have HB := n1_; have HI0 := n2_; clear n0_ n1_ n2_; (try clear hb); (try clear hb2); (try clear hk); (try clear hi); obtain ⟨HGz12, hgz12⟩ := HI0.out; have hcz12_0 := cellS74_0 HGz12; have hcz12_1 := cellS74_1 HGz12; have hcz12_2 := cellS74_2 HGz12; have hfz12_0 := blk_frozen HGz12 0; have hfz12_1 := blk_frozen HGz12 1; have hfz12_2 := blk_frozen HGz12 2; clear HGz12 hgz12) | (go_at_call 36; (with_reducible refine (filter_parser_stop.calls g t118 t119 t120 t119 t124 t125 t126 w0 _ ?side1 ?side2 A10.out).mono ?_); (case side1 => repeat (first | (with_reducible first | exact HI0.out | apply IsS74.alloc | apply IsS74.drewN | apply IsS74.drew | apply IsS74.set_0 | apply IsS74.set_1 | apply IsS74.set_2) | exact HI0.out)); (case side2 => repeat (first | (with_reducible first | exact HB.out | apply below_alloc | apply pw_below_drewN | apply below_drew1 | refine below_set ?_ (IsS74.ge HI0.out)) | exact HB.out)); rintro e w13 ⟨rfl, hi, hb, hk⟩; have n0_ := Aside0.mk (KeepBut.trans (by repeat (first | (with_reducible first | exact HK.out | apply KeepBut.set_ | apply keep_drewN | apply keep_drew | apply keep_alloc) | exact HK.out)) hk (.inl rfl)); have n1_ := Aside0.mk (hb); have n2_ := Aside0.mk (hi); clear HK; clear HB; clear HI0; have HK := n0_; have HB := n1_; have HI0 := n2_; clear n0_ n1_ n2_; (try clear hb); (try clear hb2); (try clear hk); (try clear hi))); try go_wp2_with (first | (go_at_call 34; (with_reducible refine (filter_parser_blanks.calls k g s0_0 s0_1 s0_2 t118 t119 t120 w0 _ ?side1 ?side2 A3.out).mono ?_); (case side1 => repeat (first | (with_reducible first | exact HI0.out | apply IsS74.alloc | apply IsS74.drewN | apply IsS74.drew | apply IsS74.set_0 | apply IsS74.set_1 | apply IsS74.set_2) | exact HI0.out)); (case side2 => repeat (first | (with_reducible first | exact HB.out | apply below_alloc | apply pw_below_drewN | apply below_drew1 | refine below_set ?_ (IsS74.ge HI0.out)) | exact HB.out)); rintro e w11 ⟨rfl, hi, hb, hk⟩; have n0_ := Aside0.mk (KeepBut.trans (by repeat (first | (with_reducible first | exact HK.out | apply KeepBut.set_ | apply keep_drewN | apply keep_drew | apply keep_alloc) | exact HK.out)) hk (.inl rfl)); have n1_ := Aside0.mk (hb); have n2_ := Aside0.mk (hi); clear HK; clear HB; clear HI0; have HK := n0_; have HB := n1_; have HI0 := n2_; clear n0_ n1_ n2_; (try clear hb); (try clear hb2); (try clear hk); (try clear hi); obtain ⟨HGz12, hgz12⟩ := HI0.out; have hcz12_0 := cellS74_0 HGz12; have hcz12_1 := cellS74_1 HGz12; have hcz12_2 := cellS74_2 HGz12; have hfz12_0 := blk_frozen HGz12 0; have hfz12_1 := blk_frozen HGz12 1; have hfz12_2 := blk_frozen HGz12 2; clear HGz12 hgz12) | (go_at_call 36; (with_reducible refine (filter_parser_stop.calls g t118 t119 t120 t119 t124 t125 t126 w0 _ ?side1 ?side2 A10.out).mono ?_); (case side1 => repeat (first | (with_reducible first | exact HI0.out | apply IsS74.alloc | apply IsS74.drewN | apply IsS74.drew | apply IsS74.set_0 | apply IsS74.set_1 | apply IsS74.set_2) | exact HI0.out)); (case side2 => repeat (first | (with_reducible first | exact HB.out | apply below_alloc | apply pw_below_drewN | apply below_drew1 | refine below_set ?_ (IsS74.ge HI0.out)) | exact HB.out)); rintro e w13 ⟨rfl, hi, hb, hk⟩; have n0_ := Aside0.mk (KeepBut.trans (by repeat (first | (with_reducible first | exact HK.out | apply KeepBut.set_ | apply keep_drewN | apply keep_drew | apply keep_alloc) | exact HK.out)) hk (.inl rfl)); have n1_ := Aside0.mk (hb); have n2_ := Aside0.mk (hi); clear HK; clear HB; clear HI0; have HK := n0_; have HB := n1_; have HI0 := n2_; clear n0_ n1_ n2_; (try clear hb); (try clear hb2); (try clear hk); (try clear hi))))
      first | go_end0 | ((try simp only [Exit.inBlock, Exit.then]); refine bodyPost_ret (results_none rfl _ _ _) rfl ?_)
      exact ⟨by first | rfl | (simp [errW_none, errW_some] <;> rfl) | (simp [*, errW_none, errW_some] <;> rfl), by repeat (first | (with_reducible first | exact HI0.out | apply IsS74.alloc | apply IsS74.drewN | apply IsS74.drew | apply IsS74.set_0 | apply IsS74.set_1 | apply IsS74.set_2) | exact HI0.out), by repeat (first | (with_reducible first | exact HB.out | apply below_alloc | apply pw_below_drewN | apply below_drew1 | refine below_set ?_ (IsS74.ge HI0.out)) | exact HB.out), by repeat (first | (with_reducible first | exact HK.out | apply KeepBut.set_ | apply keep_drewN | apply keep_drew | apply keep_alloc) | exact HK.out)⟩
    · rw [if_neg c9] at H
      have c9b0 : decide ((wrap64 ((t118.size : Int) - t119)) < (a1.size : Int)) = false := decide_eq_false c9
      clear c9
      by_cases c14 : 0 ≤ t119
      · rw [if_pos c14] at H
        have c14b0 := eq_true c14
        have c14b1 : decide (0 ≤ t119) = true := decide_eq_true c14
        clear c14
        by_cases c15 : t119 ≤ (wrap64 (t119 + (a1.size : Int)))
        · rw [if_pos c15] at H
          have c15b0 := eq_true c15
          have c15b1 : decide (t119 ≤ (wrap64 (t119 + (a1.size : Int)))) = true := decide_eq_true c15
          by_cases c16 : (wrap64 (t119 + (a1.size : Int))) ≤ (t118.size : Int)
          · rw [if_pos c16] at H
            have c16b0 := eq_true c16
            have c16b1 : decide ((wrap64 (t119 + (a1.size : Int))) ≤ (t118.size : Int)) = true := decide_eq_true c16
            by_cases c17 : (t118.extract (t119 : Int).toNat ((wrap64 (t119 + (a1.size : Int))) : Int).toNat).toList = a1.toList
            · rw [if_pos c17] at H
              have c17b0 : ((t118.extract (t119 : Int).toNat ((wrap64 (t119 + (a1.size : Int))) : Int).toNat).toList == a1.toList) = true := beq_iff_eq.mpr c17
              have c17b1 : ((t118.extract (t119 : Int).toNat ((wrap64 (t119 + (a1.size : Int))) : Int).toNat).toList != a1.toList) = false := bne_eq_false_iff_eq.mpr c17
              clear c17
              simp only [Option.some.injEq, Prod.mk.injEq] at H
              obtain ⟨rfl, rfl, rfl⟩ := H
              go_enter Tryd.func62, Tryd.ntmps62
              go_wp2_with (first | (go_at_call 34; (with_reducible refine (filter_parser_blanks.calls k g s0_0 s0_1 s0_2 t118 t119 t120 w0 _ ?side1 ?side2 A3.out).mono ?_); (case side1 => repeat (first | (with_reducible first | exact HI0.out | apply IsS74.alloc | apply IsS74.drewN | apply IsS74.drew | apply IsS74.set_0 | apply IsS74.set_1 | apply IsS74.set_2) | exact HI0.out)); (case side2 => repeat (first | (with_reducible first | exact HB.out | apply below_alloc | apply pw_below_drewN | apply below_drew1 | refine below_set ?_ (IsS74.ge HI0.out)) | exact HB.out)); rintro e w18 ⟨rfl, hi, hb, hk⟩; have n0_ := Aside0.mk (KeepBut.trans (by repeat (first | (with_reducible first | exact HK.out | apply KeepBut.set_ | apply keep_drewN | apply keep_drew | apply keep_alloc) | exact HK.out)) hk (.inl rfl)); have n1_ := Aside0.mk (hb); have n2_ := Aside0.mk (hi); clear HK; clear HB; clear HI0; have HK := n0_; have HB := n1_; have HI0 := n2_; clear n0_ n1_ n2_; (try clear hb); (try clear hb2); (try clear hk); (try clear hi); obtain ⟨HGz19, hgz19⟩ := HI0.out; have hcz19_0 := cellS74_0 HGz19; have hcz19_1 := cellS74_1 HGz19; have hcz19_2 := cellS74_2 HGz19; have hfz19_0 := blk_frozen HGz19 0; have hfz19_1 := blk_frozen HGz19 1; have hfz19_2 := blk_frozen HGz19 2; clear HGz19 hgz19))
              repeat (go_quiet (first | (go_at_call 34; (with_reducible refine (filter_parser_blanks.calls k g s0_0 s0_1 s0_2 t118 t119 t120 w0 _ ?side1 ?side2 A3.out).mono ?_); (case side1 => repeat (first | (with_reducible first | exact HI0.out | apply IsS74.alloc | apply IsS74.drewN | apply IsS74.drew | apply IsS74.set_0 | apply IsS74.set_1 | apply IsS74.set_2) | exact HI0.out)); (case side2 => repeat (first | (with_reducible first | exact HB.out | apply below_alloc | apply pw_below_drewN | apply below_drew1 | refine below_set ?_ (IsS74.ge HI0.out)) | exact HB.out)); rintro e w18 ⟨rfl, hi, hb, hk⟩; have n0_ := Aside0.mk (KeepBut.trans (by repeat (first | (with_reducible first | exact HK.out | apply KeepBut.set_ | apply keep_drewN | apply keep_drew | apply keep_alloc) | exact HK.out)) hk (.inl rfl)); have n1_ := Aside0.mk (hb); have n2_ := Aside0.mk (hi); clear HK; clear HB; clear HI0; have HK := n0_; have HB := n1_; have HI0 := n2_; clear n0_ n1_ n2_; (try clear hb); (try clear hb2); (try clear hk); (try clear hi); obtain ⟨HGz19, hgz19⟩ := HI0.out; have hcz19_0 := cellS74_0 HGz19; have hcz19_1 := cellS74_1 HGz19; have hcz19_2 := cellS74_2 HGz19; have hfz19_0 := blk_frozen HGz19 0; have hfz19_1 := blk_frozen HGz19 1; have hfz19_2 := blk_frozen HGz19 2; clear HGz19 hgz19)); try go_wp2_with (first | (go_at_call 34; (with_reducible refine (filter_parser_blanks.calls k g s0_0 s0_1 s0_2 t118 t119 t120 w0 _ ?side1 ?side2 A3.out).mono ?_); (case side1 => repeat (first | (with_reducible first | exact HI0.out | apply IsS74.alloc | apply IsS74.drewN | apply IsS74.drew | apply IsS74.set_0 | apply IsS74.set_1 | apply IsS74.set_2) | exact HI0.out)); (case side2 => repeat (first | (with_reducible first | exact HB.out | apply below_alloc | apply pw_below_drewN | apply below_drew1 | refine below_set ?_ (IsS74.ge HI0.out)) | exact HB.out)); rintro e w18 ⟨rfl, hi, hb, hk⟩; have n0_ := Aside0.mk (KeepBut.trans (by repeat (first | (with_reducible first | exact HK.out | apply KeepBut.set_ | apply keep_drewN | apply keep_drew | apply keep_alloc) | exact HK.out)) hk (.inl rfl)); have n1_ := Aside0.mk (hb); have n2_ := Aside0.mk (hi); clear HK; clear HB; clear HI0; have HK := n0_; have HB := n1_; have HI0 := n2_; clear n0_ n1_ n2_; (try clear hb); (try clear hb2); (try clear hk); (try clear hi); obtain ⟨HGz19, hgz19⟩ := HI0.out; have hcz19_0 := cellS74_0 HGz19; have hcz19_1 := cellS74_1 HGz19; have hcz19_2 := cellS74_2 HGz19; have hfz19_0 := blk_frozen HGz19 0; have hfz19_1 := blk_frozen HGz19 1; have hfz19_2 := blk_frozen HGz19 2; clear HGz19 hgz19)))
              first | go_end0 | ((try simp only [Exit.inBlock, Exit.then]); refine bodyPost_ret (results_none rfl _ _ _) rfl ?_)
              exact ⟨by first | rfl | (simp [errW_none, errW_some] <;> rfl) | (simp [*, errW_none, errW_some] <;> rfl), by repeat (first | (with_reducible first | exact HI0.out | apply IsS74.alloc | apply IsS74.drewN | apply IsS74.drew | apply IsS74.set_0 | apply IsS74.set_1 | apply IsS74.set_2) | exact HI0.out), by repeat (first | (with_reducible first | exact HB.out | apply below_alloc | apply pw_below_drewN | apply below_drew1 | refine below_set ?_ (IsS74.ge HI0.out)) | exact HB.out), by repeat (first | (with_reducible first | exact HK.out | apply KeepBut.set_ | apply keep_drewN | apply keep_drew | apply keep_alloc) | exact HK.out)⟩
            · rw [if_neg c17] at H
              have c17b0 : ((t118.extract (t119 : Int).toNat ((wrap64 (t119 + (a1.size : Int))) : Int).toNat).toList == a1.toList) = false := beq_eq_false_iff_ne.mpr c17
              have c17b1 : ((t118.extract (t119 : Int).toNat ((wrap64 (t119 + (a1.size : Int))) : Int).toNat).toList != a1.toList) = true := bne_iff_ne.mpr c17
              replace H := Option.bind_eq_some_iff.mp H
              obtain ⟨⟨t127, t128, t129⟩, A200, H⟩ := H
              replace H : (some (t127, t128, t129)) = some (r1, r2, r3) := H
              have A20 := Aside0.mk A200
              clear A200
              simp only [Option.some.injEq, Prod.mk.injEq] at H
              obtain ⟨rfl, rfl, rfl⟩ := H
              go_enter Tryd.func62, Tryd.ntmps62
              go_wp2_with (first | (go_at_call 34; (with_reducible refine (filter_parser_blanks.calls k g s0_0 s0_1 s0_2 t118 t119 t120 w0 _ ?side1 ?side2 A3.out).mono ?_); (case side1 => repeat (first | (with_reducible first | exact HI0.out | apply IsS74.alloc | apply IsS74.drewN | apply IsS74.drew | apply IsS74.set_0 | apply IsS74.set_1 | apply IsS74.set_2) | exact HI0.out)); (case side2 => repeat (first | (with_reducible first | exact HB.out | apply below_alloc | apply pw_below_drewN | apply below_drew1 | refine below_set ?_ (IsS74.ge HI0.out)) | exact HB.out)); rintro e w21 ⟨rfl, hi, hb, hk⟩; have n0_ := Aside0.mk (KeepBut.trans (by repeat (first | (with_reducible first | exact HK.out | apply KeepBut.set_ | apply keep_drewN | apply keep_drew | apply keep_alloc) | exact HK.out)) hk (.inl rfl)); have n1_ := Aside0.mk (hb); have n2_ := Aside0.mk (hi); clear HK; clear HB; clear HI0; have HK := n0_; have HB := n1_; have HI0 := n2_; clear n0_ n1_ n2_; (try clear hb); (try clear hb2); (try clear hk); (try clear hi); obtain ⟨HGz22, hgz22⟩ := HI0.out; have hcz22_0 := cellS74_0 HGz22; have hcz22_1 := cellS74_1 HGz22; have hcz22_2 := cellS74_2 HGz22; have hfz22_0 := blk_frozen HGz22 0; have hfz22_1 := blk_frozen HGz22 1; have hfz22_2 := blk_frozen HGz22 2; clear HGz22 hgz22) | (go_at_call 36; (with_reducible refine (filter_parser_stop.calls g t118 t119 t120 t119 t127 t128 t129 w0 _ ?side1 ?side2 A20.out).mono ?_); (case side1 => repeat (first | (with_reducible first | exact HI0.out | apply IsS74.alloc | apply IsS74.drewN | apply IsS74.drew | apply IsS74.set_0 | apply IsS74.set_1 | apply IsS74.set_2) | exact HI0.out)); (case side2 => repeat (first | (with_reducible first | exact HB.out | apply below_alloc | apply pw_below_drewN | apply below_drew1 | refine below_set ?_ (IsS74.ge HI0.out)) | exact HB.out)); rintro e w23 ⟨rfl, hi, hb, hk⟩; have n0_ := Aside0.mk (KeepBut.trans (by repeat (first | (with_reducible first | exact HK.out | apply KeepBut.set_ | apply keep_drewN | apply keep_drew | apply keep_alloc) | exact HK.out)) hk (.inl rfl)); have n1_ := Aside0.mk (hb); have n2_ := Aside0.mk (hi); clear HK; clear HB; clear HI0; have HK := n0_; have HB := n1_; have HI0 := n2_; clear n0_ n1_ n2_; (try clear hb); (try clear hb2); (try clear hk); (try clear hi)))
              repeat (go_quiet (first | (go_at_call 34; (with_reducible refine (filter_parser_blanks.calls k g s0_0 s0_1 s0_2 t118 t119 t120 w0 _ ?side1 ?side2 A3.out).mono ?_); (case side1 => repeat (first | (with_reducible first | exact HI0.out | apply IsS74.alloc | apply IsS74.drewN | apply IsS74.drew | apply IsS74.set_0 | apply IsS74.set_1 | apply IsS74.set_2) | exact HI0.out)); (case side2 => repeat (first | (with_reducible first | exact HB.out | apply below_alloc | apply pw_below_drewN | apply below_drew1 | refine below_set ?_ (IsS74.ge HI0.out)) | exact HB.out)); rintro e w21 ⟨rfl, hi, hb, hk⟩; have n0_ := Aside0.mk (KeepBut.trans (by repeat (first | (with_reducible first | exact HK.out | apply KeepBut.set_ | apply keep_drewN | apply keep_drew | apply keep_alloc) | exact HK.out)) hk (.inl rfl)); have n1_ := Aside0.mk (hb); have n2_ := Aside0.mk (hi); clear HK; clear HB; clear HI0; have HK := n0_; have HB := n1_; have HI0 := n2_; clear n0_ n1_ n2_; (try clear hb); (try clear hb2); (try clear hk); (try clear hi); obtain ⟨HGz22, hgz22⟩ := HI0.out; have hcz22_0 := cellS74_0 HGz22; have hcz22_1 := cellS74_1 HGz22; have hcz22_2 := cellS74_2 HGz22; have hfz22_0 := blk_frozen HGz22 0; have hfz22_1 := blk_frozen HGz22 1; have hfz22_2 := blk_frozen HGz22 2; clear HGz22 hgz22) | (go_at_call 36; (with_reducible refine (filter_parser_stop.calls g t118 t119 t120 t119 t127 t128 t129 w0 _ ?side1 ?side2 A20.out).mono ?_); (case side1 => repeat (first | (with_reducible first | exact HI0.out | apply IsS74.alloc | apply IsS74.drewN | apply IsS74.drew | apply IsS74.set_0 | apply IsS74.set_1 | apply IsS74.set_2) | exact HI0.out)); (case side2 => repeat (first | (with_reducible first | exact HB.out | apply below_alloc | apply pw_below_drewN | apply below_drew1 | refine below_set ?_ (IsS74.ge HI0.out)) | exact HB.out)); rintro e w23 ⟨rfl, hi, hb, hk⟩; have n0_ := Aside0.mk (KeepBut.trans (by repeat (first | (with_reducible first | exact HK.out | apply KeepBut.set_ | apply keep_drewN | apply keep_drew | apply keep_alloc) | exact HK.out)) hk (.inl rfl)); have n1_ := Aside0.mk (hb); have n2_ := Aside0.mk (hi); clear HK; clear HB; clear HI0; have HK := n0_; have HB := n1_; have HI0 := n2_; clear n0_ n1_ n2_; (try clear hb); (try clear hb2); (try clear hk); (try clear hi))); try go_wp2_with (first | (go_at_call 34; (with_reducible refine (filter_parser_blanks.calls k g s0_0 s0_1 s0_2 t118 t119 t120 w0 _ ?side1 ?side2 A3.out).mono ?_); (case side1 => repeat (first | (with_reducible first | exact HI0.out | apply IsS74.alloc | apply IsS74.drewN | apply IsS74.drew | apply IsS74.set_0 | apply IsS74.set_1 | apply IsS74.set_2) | exact HI0.out)); (case side2 => repeat (first | (with_reducible first | exact HB.out | apply below_alloc | apply pw_below_drewN | apply below_drew1 | refine below_set ?_ (IsS74.ge HI0.out)) | exact HB.out)); rintro e w21 ⟨rfl, hi, hb, hk⟩; have n0_ := Aside0.mk (KeepBut.trans (by repeat (first | (with_reducible first | exact HK.out | apply KeepBut.set_ | apply keep_drewN | apply keep_drew | apply keep_alloc) | exact HK.out)) hk (.inl rfl)); have n1_ := Aside0.mk (hb); have n2_ := Aside0.mk (hi); clear HK; clear HB; clear HI0; have HK := n0_; have HB := n1_; have HI0 := n2_; clear n0_ n1_ n2_; (try clear hb); (try clear hb2); (try clear hk); (try clear hi); obtain ⟨HGz22, hgz22⟩ := HI0.out; have hcz22_0 := cellS74_0 HGz22; have hcz22_1 := cellS74_1 HGz22; have hcz22_2 := cellS74_2 HGz22; have hfz22_0 := blk_frozen HGz22 0; have hfz22_1 := blk_frozen HGz22 1; have hfz22_2 := blk_frozen HGz22 2; clear HGz22 hgz22) | (go_at_call 36; (with_reducible refine (filter_parser_stop.calls g t118 t119 t120 t119 t127 t128 t129 w0 _ ?side1 ?side2 A20.out).mono ?_); (case side1 => repeat (first | (with_reducible first | exact HI0.out | apply IsS74.alloc | apply IsS74.drewN | apply IsS74.drew | apply IsS74.set_0 | apply IsS74.set_1 | apply IsS74.set_2) | exact HI0.out)); (case side2 => repeat (first | (with_reducible first | exact HB.out | apply below_alloc | apply pw_below_drewN | apply below_drew1 | refine below_set ?_ (IsS74.ge HI0.out)) | exact HB.out)); rintro e w23 ⟨rfl, hi, hb, hk⟩; have n0_ := Aside0.mk (KeepBut.trans (by repeat (first | (with_reducible first | exact HK.out | apply KeepBut.set_ | apply keep_drewN | apply keep_drew | apply keep_alloc) | exact HK.out)) hk (.inl rfl)); have n1_ := Aside0.mk (hb); have n2_ := Aside0.mk (hi); clear HK; clear HB; clear HI0; have HK := n0_; have HB := n1_; have HI0 := n2_; clear n0_ n1_ n2_; (try clear hb); (try clear hb2); (try clear hk); (try clear hi))))
              first | go_end0 | ((try simp only [Exit.inBlock, Exit.then]); refine bodyPost_ret (results_none rfl _ _ _) rfl ?_)
              exact ⟨by first | rfl | (simp [errW_none, errW_some] <;> rfl) | (simp [*, errW_none, errW_some] <;> rfl), by repeat (first | (with_reducible first | exact HI0.out | apply IsS74.alloc | apply IsS74.drewN | apply IsS74.drew | apply IsS74.set_0 | apply IsS74.set_1 | apply IsS74.set_2) | exact HI0.out), by repeat (first | (with_reducible first | exact HB.out | apply below_alloc | apply pw_below_drewN | apply below_drew1 | refine below_set ?_ (IsS74.ge HI0.out)) | exact HB.out), by repeat (first | (with_reducible first | exact HK.out | apply KeepBut.set_ | apply keep_drewN | apply keep_drew | apply keep_alloc) | exact HK.out)⟩
          · rw [if_neg c16] at H
            exact absurd H (by simp)
        · rw [if_neg c15] at H
          exact absurd H (by simp)
      · rw [if_neg c14] at H
        exact absurd H (by simp)

end Go.Proofs.YthaapijjjgkacaaDoor.PFilterReads
