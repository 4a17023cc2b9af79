/- Texts of one claim, one behind the other, made short by a program. -/
import Derived.Test.YtnmpijbcajclgaaGreatDoorMN12
set_option linter.unusedSimpArgs false
set_option linter.unusedVariables false
set_option maxRecDepth 100000
section
namespace Go.Proofs.YtnmpijbcajclgaaGreatDoor.PNodeAlone
open Go.RowKit Go.Proofs.YtnmpijbcajclgaaGreatDoorW.PrintWords Go.Proofs.YtnmpijbcajclgaaGreatDoorW.PrintLast Go.Proofs.YtnmpijbcajclgaaGreatDoorW.PrintMore
attribute [local go_sem] max2_int min2_int max_two min_two max_three min_three max_four min_four
mutual
def dyad_Cover.j0 : Nat → Int → Int → Int → Bool → Option ((List (S194)))
 | 0, _, _, _, _ => none
 | k + 1, x0, x1, x2, x27 => if x27 = true then (some ([] : List (S194))) else (dyad_Cover.l0 k x0 x1 x2 ([] : List (S194)))
def dyad_Cover.l0 : Nat → Int → Int → Int → List (S194) → Option ((List (S194)))
 | 0, _, _, _, _ => none
 | k + 1, x0, x1, x2, x7 => if x0 ≤ x1 then (dyad_Cover.l1 k x0 x1 x2 x7 0) else (some x7)
def dyad_Cover.l1 : Nat → Int → Int → Int → List (S194) → Int → Option ((List (S194)))
 | 0, _, _, _, _, _ => none
 | k + 1, x0, x1, x2, x7, x8 => if x8 < x2 then (if 0 ≤ (wrap64 (x8 + 1)) then (if (Go.bits .and .i64 x0 (wrap64 ((shl .i64 1 (wrap64 (x8 + 1))) - 1))) = 0 then (if (wrap64 ((wrap64 (x0 + (shl .i64 1 (wrap64 (x8 + 1))))) - 1)) ≤ x1 then (dyad_Cover.l1 k x0 x1 x2 x7 (wrap64 (x8 + 1))) else (if 0 ≤ x8 then (if x7.length < 8796093022208 then (dyad_Cover.l0 k (wrap64 (x0 + (shl .i64 1 x8))) x1 x2 (x7 ++ [(⟨wrap64 (x2 - x8), shr .i64 x0 x8⟩ : S194)])) else (none)) else (none))) else (if 0 ≤ x8 then (if x7.length < 8796093022208 then (dyad_Cover.l0 k (wrap64 (x0 + (shl .i64 1 x8))) x1 x2 (x7 ++ [(⟨wrap64 (x2 - x8), shr .i64 x0 x8⟩ : S194)])) else (none)) else (none))) else (none)) else (if 0 ≤ x8 then (if x7.length < 8796093022208 then (dyad_Cover.l0 k (wrap64 (x0 + (shl .i64 1 x8))) x1 x2 (x7 ++ [(⟨wrap64 (x2 - x8), shr .i64 x0 x8⟩ : S194)])) else (none)) else (none))
end
def dyad_Cover.f (k : Nat) (a0 : Int) (a1 : Int) (a2 : Int) : Option ((List (S194))) := if a0 > a1 then (dyad_Cover.j0 k a0 a1 a2 true) else ((dyad_Good.f a2 a0 a2).bind fun t183 => (if t183 = true then ((dyad_Good.f a2 a1 a2).bind fun t184 => (dyad_Cover.j0 k a0 a1 a2 (!t184))) else (dyad_Cover.j0 k a0 a1 a2 true)))
theorem dyad_Cover.mono_l : ∀ k, (∀ y0 y1 y2 y3, LeO (dyad_Cover.j0 k y0 y1 y2 y3) (dyad_Cover.j0 (k + 1) y0 y1 y2 y3)) ∧ (∀ y0 y1 y2 y3, LeO (dyad_Cover.l0 k y0 y1 y2 y3) (dyad_Cover.l0 (k + 1) y0 y1 y2 y3)) ∧ (∀ y0 y1 y2 y3 y4, LeO (dyad_Cover.l1 k y0 y1 y2 y3 y4) (dyad_Cover.l1 (k + 1) y0 y1 y2 y3 y4))
 | 0 => ⟨fun _ _ _ _ r h => by simp [dyad_Cover.j0] at h, fun _ _ _ _ r h => by simp [dyad_Cover.l0] at h, fun _ _ _ _ _ r h => by simp [dyad_Cover.l1] at h⟩
 | k + 1 => by
  obtain ⟨ih0, ih1, ih2⟩ := dyad_Cover.mono_l k
  refine ⟨?_, ?_, ?_⟩
  ·
   intro y0 y1 y2 y3
   unfold dyad_Cover.j0
   repeat' first
   | (with_reducible exact ih0 _ _ _ _)
   | (with_reducible exact ih1 _ _ _ _)
   | (with_reducible exact ih2 _ _ _ _ _)
   | (with_reducible exact LeO.refl _)
   | (with_reducible exact LeO.none _)
   | (with_reducible refine LeO.ite ?_ ?_)
   | (with_reducible refine LeO.bind ?_ (fun _ => ?_))
   | exact ih0 _ _ _ _
   | exact ih1 _ _ _ _
   | exact ih2 _ _ _ _ _
   | exact LeO.none _
   | refine LeO.ite ?_ ?_
   | refine LeO.bind ?_ (fun _ => ?_)
  ·
   intro y0 y1 y2 y3
   unfold dyad_Cover.l0
   repeat' first
   | (with_reducible exact ih0 _ _ _ _)
   | (with_reducible exact ih1 _ _ _ _)
   | (with_reducible exact ih2 _ _ _ _ _)
   | (with_reducible exact LeO.refl _)
   | (with_reducible exact LeO.none _)
   | (with_reducible refine LeO.ite ?_ ?_)
   | (with_reducible refine LeO.bind ?_ (fun _ => ?_))
   | exact ih0 _ _ _ _
   | exact ih1 _ _ _ _
   | exact ih2 _ _ _ _ _
   | exact LeO.none _
   | refine LeO.ite ?_ ?_
   | refine LeO.bind ?_ (fun _ => ?_)
  ·
   intro y0 y1 y2 y3 y4
   unfold dyad_Cover.l1
   repeat' first
   | (with_reducible exact ih0 _ _ _ _)
   | (with_reducible exact ih1 _ _ _ _)
   | (with_reducible exact ih2 _ _ _ _ _)
   | (with_reducible exact LeO.refl _)
   | (with_reducible exact LeO.none _)
   | (with_reducible refine LeO.ite ?_ ?_)
   | (with_reducible refine LeO.bind ?_ (fun _ => ?_))
   | exact ih0 _ _ _ _
   | exact ih1 _ _ _ _
   | exact ih2 _ _ _ _ _
   | exact LeO.none _
   | refine LeO.ite ?_ ?_
   | refine LeO.bind ?_ (fun _ => ?_)
theorem dyad_Cover.mono : ∀ a0 a1 a2 k, LeO (dyad_Cover.f k a0 a1 a2) (dyad_Cover.f (k + 1) a0 a1 a2) := by
 intro a0 a1 a2 k
 obtain ⟨ih0, ih1, ih2⟩ := dyad_Cover.mono_l k
 unfold dyad_Cover.f
 repeat' first
  | (with_reducible exact ih0 _ _ _ _)
  | (with_reducible exact ih1 _ _ _ _)
  | (with_reducible exact ih2 _ _ _ _ _)
  | (with_reducible exact LeO.refl _)
  | (with_reducible exact LeO.none _)
  | (with_reducible refine LeO.ite ?_ ?_)
  | (with_reducible refine LeO.bind ?_ (fun _ => ?_))
  | exact ih0 _ _ _ _
  | exact ih1 _ _ _ _
  | exact ih2 _ _ _ _ _
  | exact LeO.none _
  | refine LeO.ite ?_ ?_
  | refine LeO.bind ?_ (fun _ => ?_)
set_option maxHeartbeats 8000000 in
theorem dyad_Cover.calls (k : Nat) (a0 : Int) (a1 : Int) (a2 : Int) (r : List (S194)) (w : World) (h : dyad_Cover.f k a0 a1 a2 = some r) :
 Calls Tryz.prog 89 #[.int .i64 a0, .int .i64 a1, .int .i64 a2] w fun e w' => ∃ v0_ : Value, e = .returned (v0_) ∧ Kd.R k194 194 w' w.heap.size (fun _ => True) v0_ r ∧ Below w.heap.size w w' := by
 have hu194 := Tryz.underlying194
 have HB := mk0 (Below.refl w.heap.size w)
 have H : (if a0 > a1 then (dyad_Cover.j0 k a0 a1 a2 true) else ((dyad_Good.f a2 a0 a2).bind fun t183 => (if t183 = true then ((dyad_Good.f a2 a1 a2).bind fun t184 => (dyad_Cover.j0 k a0 a1 a2 (!t184))) else (dyad_Cover.j0 k a0 a1 a2 true)))) = some r := h
 clear h
 have HC4 := mk0 H
 clear H
 go_enter Tryz.func89, Tryz.ntmps89
 go_upto_region 1 with (fail)
 go_cut [27] (fun v27 wc => ∃ (kq : Nat) (x27_3 : Bool), v27 = .bool x27_3 ∧ Aside0 (dyad_Cover.j0 kq a0 a1 a2 x27_3 = some r) ∧ Aside0 (kq ≤ k) ∧ Aside0 (Below w.heap.size w wc))
 case first =>
  have H := HC4.out
  clear HC4
  by_cases c5 : a0 > a1
  ·
   rw [if_pos c5] at H
   have c5b0 : decide (a1 < a0) = true := decide_eq_true c5
   clear c5
   (first | rw [c5b0] | (simp only [i64_w, i32_w]; rw [c5b0]) | skip)
   have H' := mk0 H
   clear H
   go_wp2
   go_meet
   case rel => exact ⟨_, (true), (by first | rfl | (simp; done) | (simp [*]; done)), H', ⟨by first | omega | exact Nat.le_refl _⟩, ⟨by repeat (first | (with_reducible first | exact HB.out | apply below_alloc | apply pw_below_drewN | apply below_drew1) | exact HB.out)⟩⟩
  ·
   rw [if_neg c5] at H
   have c5b0 : decide (a1 < a0) = false := decide_eq_false c5
   clear c5
   (first | rw [c5b0] | (simp only [i64_w, i32_w]; rw [c5b0]) | skip)
   replace H := Option.bind_eq_some_iff.mp H
   obtain ⟨t183, A60, H⟩ := H
   replace H : (if t183 = true then ((dyad_Good.f a2 a1 a2).bind fun t184 => (dyad_Cover.j0 k a0 a1 a2 (!t184))) else (dyad_Cover.j0 k a0 a1 a2 true)) = some r := H
   have A6 := mk0 A60
   clear A60
   by_cases c7 : t183 = true
   ·
    subst c7
    have H1 : ((dyad_Good.f a2 a1 a2).bind fun t184 => (dyad_Cover.j0 k a0 a1 a2 (!t184))) = some r := by rw [if_pos rfl] at H; exact H
    clear H
    have H := H1
    clear H1
    replace H := Option.bind_eq_some_iff.mp H
    obtain ⟨t184, A80, H⟩ := H
    replace H : (dyad_Cover.j0 k a0 a1 a2 (!t184)) = some r := H
    have A8 := mk0 A80
    clear A80
    have H' := mk0 H
    clear H
    go_wp2_with (first | (go_at_call 153; (with_reducible refine (dyad_Good.calls a2 a0 a2 true _ A6.out).mono ?_); rintro e w9 ⟨rfl, hb⟩; have n0_ := mk0 (below_step (by repeat (first | (with_reducible first | exact HB.out | apply below_alloc | apply pw_below_drewN | apply below_drew1) | exact HB.out)) hb); clear HB; have HB := n0_; clear n0_; (try clear hb); (try clear hb2); (try clear hk); (try clear hi)) | (go_at_call 153; (with_reducible refine (dyad_Good.calls a2 a1 a2 t184 _ A8.out).mono ?_); rintro e w10 ⟨rfl, hb⟩; have n0_ := mk0 (below_step (by repeat (first | (with_reducible first | exact HB.out | apply below_alloc | apply pw_below_drewN | apply below_drew1) | exact HB.out)) hb); clear HB; have HB := n0_; clear n0_; (try clear hb); (try clear hb2); (try clear hk); (try clear hi)))
    go_meet
    case rel => exact ⟨_, (!t184), (by first | rfl | (simp; done) | (simp [*]; done)), H', ⟨by first | omega | exact Nat.le_refl _⟩, ⟨by repeat (first | (with_reducible first | exact HB.out | apply below_alloc | apply pw_below_drewN | apply below_drew1) | exact HB.out)⟩⟩
   ·
    replace c7 := Bool.eq_false_iff.mpr c7
    subst c7
    have H1 : (dyad_Cover.j0 k a0 a1 a2 true) = some r := by rw [if_neg (show ¬ (false = true) by decide)] at H; exact H
    clear H
    have H := H1
    clear H1
    have H' := mk0 H
    clear H
    go_wp2_with (first | (go_at_call 153; (with_reducible refine (dyad_Good.calls a2 a0 a2 false _ A6.out).mono ?_); rintro e w11 ⟨rfl, hb⟩; have n0_ := mk0 (below_step (by repeat (first | (with_reducible first | exact HB.out | apply below_alloc | apply pw_below_drewN | apply below_drew1) | exact HB.out)) hb); clear HB; have HB := n0_; clear n0_; (try clear hb); (try clear hb2); (try clear hk); (try clear hi)))
    go_meet
    case rel => exact ⟨_, (true), (by first | rfl | (simp; done) | (simp [*]; done)), H', ⟨by first | omega | exact Nat.le_refl _⟩, ⟨by repeat (first | (with_reducible first | exact HB.out | apply below_alloc | apply pw_below_drewN | apply below_drew1) | exact HB.out)⟩⟩
 case rest =>
  clear HC4
  try clear p2
  try clear c5
  try clear c5b0
  try clear c7
  try clear c8
  obtain ⟨kq, x27_3, rfl, HA, HJ3, HB⟩ := hcut
  cases kq with
  | zero => exact absurd HA.out (by simp [dyad_Cover.j0])
  | succ kj3 =>
   have H := HA.out
   clear HA
   simp only [dyad_Cover.j0] at H
   by_cases c12 : x27_3 = true
   ·
    subst c12
    have H1 : (some ([] : List (S194))) = some r := by rw [if_pos rfl] at H; exact H
    clear H
    have H := H1
    clear H1
    obtain rfl := Option.some.inj H
    go_wp2
    go_ret
    exact ⟨_, by first | rfl | (simp [errW_none, errW_some] <;> rfl) | (simp [*, errW_none, errW_some] <;> rfl), by first | exact Kd.R_nil _ _ _ _ _ | exact Kd.N_nil _ _ _ _ _ | exact Kd.V_nil _ _ _ _ _ | exact Kd.Q_nil _ _ _ _ _ | exact Kd.S_nil _ _ _ _ _, by repeat (first | (with_reducible first | exact HB.out | apply below_alloc | apply pw_below_drewN | apply below_drew1) | exact HB.out)⟩
   ·
    replace c12 := Bool.eq_false_iff.mpr c12
    subst c12
    have H1 : (dyad_Cover.l0 kj3 a0 a1 a2 ([] : List (S194))) = some r := by rw [if_neg (show ¬ (false = true) by decide)] at H; exact H
    clear H
    have H := H1
    clear H1
    have H' := mk0 H
    clear H
    go_wp2
    go_loopg [0, 7] kj3 (fun kq v0 v7 w' => ∃ (x0_2 : Int) (x7_2 : List (S194)), v0 = .int .i64 x0_2 ∧ Aside0 (dyad_Cover.l0 kq x0_2 a1 a2 x7_2 = some r) ∧ Aside0 (kq ≤ kj3) ∧ Aside0 (Kd.R k194 194 w' w.heap.size (fun _ => True) v7 x7_2) ∧ Aside0 (Below w.heap.size w w'))
    case atStart => exact ⟨(a0), (([] : List (S194))), (by first | rfl | (simp; done) | (simp [*]; done)), H', ⟨Nat.le_refl _⟩, ⟨by first | exact Kd.R_nil _ _ _ _ _ | exact Kd.N_nil _ _ _ _ _ | exact Kd.V_nil _ _ _ _ _ | exact Kd.Q_nil _ _ _ _ _ | exact Kd.S_nil _ _ _ _ _⟩, ⟨by repeat (first | (with_reducible first | exact HB.out | apply below_alloc | apply pw_below_drewN | apply below_drew1) | exact HB.out)⟩⟩
    case round =>
     clear H'
     try clear c1
     try clear p2
     try clear c5
     try clear c5b0
     try clear c7
     try clear c8
     try clear c12
     try clear p2
     obtain ⟨x0_2, x7_2, rfl, HA, HK2, HO_7, HB⟩ := hrel
     cases gk with
     | zero => exact absurd HA.out (by simp [dyad_Cover.l0])
     | succ k2 =>
      have H := HA.out
      clear HA
      simp only [dyad_Cover.l0] at H
      by_cases c13 : x0_2 ≤ a1
      ·
       rw [if_pos c13] at H
       have c13b0 : decide (x0_2 ≤ a1) = true := decide_eq_true c13
       clear c13
       have H' := mk0 H
       clear H
       go_wp2
       go_loopg [8] k2 (fun kq v8 w' => ∃ (x8_3 : Int), v8 = .int .i64 x8_3 ∧ Aside0 (dyad_Cover.l1 kq x0_2 a1 a2 x7_2 x8_3 = some r) ∧ Aside0 (kq ≤ k2) ∧ Aside0 (Kd.R k194 194 w' w.heap.size (fun _ => True) u7 x7_2) ∧ Aside0 (Below w.heap.size w w'))
       case atStart => exact ⟨(0), (by first | rfl | (simp; done) | (simp [*]; done)), H', ⟨Nat.le_refl _⟩, ⟨by (with_reducible repeat (first | apply Kd.R_alloc | apply Kd.R_drewN | apply Kd.R_drew)); exact HO_7.out⟩, ⟨by repeat (first | (with_reducible first | exact HB.out | apply below_alloc | apply pw_below_drewN | apply below_drew1) | exact HB.out)⟩⟩
       case round =>
        clear H'
        try clear c1
        try clear p2
        try clear c5
        try clear c5b0
        try clear c7
        try clear c8
        try clear c12
        try clear c13
        try clear c13b0
        try clear p2
        obtain ⟨x8_3, rfl, HA, HK3, HO_7, HB⟩ := hrel
        cases gk with
        | zero => exact absurd HA.out (by simp [dyad_Cover.l1])
        | succ k3 =>
         have H := HA.out
         clear HA
         simp only [dyad_Cover.l1] at H
         by_cases c14 : x8_3 < a2
         ·
          rw [if_pos c14] at H
          have c14b0 : decide (x8_3 < a2) = true := decide_eq_true c14
          clear c14
          obtain ⟨ji15, hji15⟩ : ∃ j_ : Int, (wrap64 (x8_3 + 1)) = j_ := ⟨_, rfl⟩
          replace H : (if 0 ≤ (ji15) then (if (Go.bits .and .i64 x0_2 (wrap64 ((shl .i64 1 (ji15)) - 1))) = 0 then (if (wrap64 ((wrap64 (x0_2 + (shl .i64 1 (ji15)))) - 1)) ≤ a1 then (dyad_Cover.l1 k3 x0_2 a1 a2 x7_2 ji15) else (if 0 ≤ x8_3 then (if x7_2.length < 8796093022208 then (dyad_Cover.l0 k3 (wrap64 (x0_2 + (shl .i64 1 x8_3))) a1 a2 (x7_2 ++ [(⟨wrap64 (a2 - x8_3), shr .i64 x0_2 x8_3⟩ : S194)])) else (none)) else (none))) else (if 0 ≤ x8_3 then (if x7_2.length < 8796093022208 then (dyad_Cover.l0 k3 (wrap64 (x0_2 + (shl .i64 1 x8_3))) a1 a2 (x7_2 ++ [(⟨wrap64 (a2 - x8_3), shr .i64 x0_2 x8_3⟩ : S194)])) else (none)) else (none))) else (none)) = some r := by first | (rw [hji15] at H; exact H) | (simp only [hji15] at H ⊢; exact H)
          have hji15w : (IntKind.i64.wrap (x8_3 + 1)) = ji15 := (i64_w _).trans hji15
          by_cases c16 : 0 ≤ (ji15)
          ·
           rw [if_pos c16] at H
           have c16b0 := eq_true c16
           have c16b1 : decide (0 ≤ (ji15)) = true := decide_eq_true c16
           clear c16
           obtain ⟨ji17, hji17⟩ : ∃ j_ : Int, (shl .i64 1 (ji15)) = j_ := ⟨_, rfl⟩
           replace H : (if (Go.bits .and .i64 x0_2 (wrap64 ((ji17) - 1))) = 0 then (if (wrap64 ((wrap64 (x0_2 + (ji17))) - 1)) ≤ a1 then (dyad_Cover.l1 k3 x0_2 a1 a2 x7_2 ji15) else (if 0 ≤ x8_3 then (if x7_2.length < 8796093022208 then (dyad_Cover.l0 k3 (wrap64 (x0_2 + (shl .i64 1 x8_3))) a1 a2 (x7_2 ++ [(⟨wrap64 (a2 - x8_3), shr .i64 x0_2 x8_3⟩ : S194)])) else (none)) else (none))) else (if 0 ≤ x8_3 then (if x7_2.length < 8796093022208 then (dyad_Cover.l0 k3 (wrap64 (x0_2 + (shl .i64 1 x8_3))) a1 a2 (x7_2 ++ [(⟨wrap64 (a2 - x8_3), shr .i64 x0_2 x8_3⟩ : S194)])) else (none)) else (none))) = some r := by first | (rw [hji17] at H; exact H) | (simp only [hji17] at H ⊢; exact H)
           have hji17_ : (IntKind.i64.wrap (1 * 2 ^ min (ji15).toNat 64)) = ji17 := hji17
           have hji17z : (ji15) ≤ 64 → (IntKind.i64.wrap (1 * 2 ^ (ji15).toNat)) = ji17 := shl_small hji17
           have hji17u : (IntKind.i64.wrap (2 ^ min (ji15).toNat 64)) = ji17 := by have h_ := hji17_; rw [Int.one_mul] at h_; exact h_
           have hji17v : (ji15) ≤ 64 → (IntKind.i64.wrap (2 ^ (ji15).toNat)) = ji17 := fun hle_ => by have h_ := hji17z hle_; rw [Int.one_mul] at h_; exact h_
           have hji17y : (wrap64 (1 * 2 ^ min (ji15).toNat 64)) = ji17 := (i64_w _).symm.trans hji17_
           have hji17x : (ji15) ≤ 64 → (wrap64 (1 * 2 ^ (ji15).toNat)) = ji17 := fun h_ => (i64_w _).symm.trans (hji17z h_)
           by_cases c18 : (Go.bits .and .i64 x0_2 (wrap64 ((ji17) - 1))) = 0
           ·
            rw [if_pos c18] at H
            have c18b0 : ((Go.bits .and .i64 x0_2 (wrap64 ((ji17) - 1))) == 0) = true := beq_iff_eq.mpr c18
            have c18b1 : ((Go.bits .and .i64 x0_2 (wrap64 ((ji17) - 1))) != 0) = false := bne_eq_false_iff_eq.mpr c18
            clear c18
            have c19b0 := eq_true (of_decide_eq_true (by first | (with_reducible assumption) | assumption) : 0 ≤ (ji15))
            by_cases c21 : (wrap64 ((wrap64 (x0_2 + (ji17))) - 1)) ≤ a1
            ·
             rw [if_pos c21] at H
             have c21b0 : decide ((wrap64 ((wrap64 (x0_2 + (ji17))) - 1)) ≤ a1) = true := decide_eq_true c21
             clear c21
             have H' := mk0 H
             clear H
             go_wp2
             go_roundg k3
             case measure => have := HJ3.out; have := HK2.out; have := HK3.out; omega
             case rel => exact ⟨(ji15), (by first | rfl | (simp; done) | (simp only [← hji15] <;> (first | rfl | simp)) | (simp [*]; done)), H', ⟨by have := HJ3.out; have := HK2.out; have := HK3.out; omega⟩, ⟨by (with_reducible repeat (first | apply Kd.R_alloc | apply Kd.R_drewN | apply Kd.R_drew)); exact HO_7.out⟩, ⟨by repeat (first | (with_reducible first | exact HB.out | apply below_alloc | apply pw_below_drewN | apply below_drew1) | exact HB.out)⟩⟩
            ·
             rw [if_neg c21] at H
             have c21b0 : decide ((wrap64 ((wrap64 (x0_2 + (ji17))) - 1)) ≤ a1) = false := decide_eq_false c21
             clear c21
             by_cases c22 : 0 ≤ x8_3
             ·
              rw [if_pos c22] at H
              have c22b0 := eq_true c22
              have c22b1 : decide (0 ≤ x8_3) = true := decide_eq_true c22
              clear c22
              obtain ⟨ji23, hji23⟩ : ∃ j_ : Int, (shr .i64 x0_2 x8_3) = j_ := ⟨_, rfl⟩
              replace H : (if x7_2.length < 8796093022208 then (dyad_Cover.l0 k3 (wrap64 (x0_2 + (shl .i64 1 x8_3))) a1 a2 (x7_2 ++ [(⟨wrap64 (a2 - x8_3), ji23⟩ : S194)])) else (none)) = some r := by first | (rw [hji23] at H; exact H) | (simp only [hji23] at H ⊢; exact H)
              have hji23_ : (x0_2 / 2 ^ min x8_3.toNat 64) = ji23 := hji23
              have hji23z : x8_3 ≤ 64 → (x0_2 / 2 ^ x8_3.toNat) = ji23 := shr_small hji23
              by_cases c24 : x7_2.length < 8796093022208
              ·
               rw [if_pos c24] at H
               have LMc24 := mk0 c24
               clear c24
               obtain ⟨y185, hy185⟩ : ∃ y_ : List (S194), y_ = (x7_2 ++ [(⟨wrap64 (a2 - x8_3), ji23⟩ : S194)]) := ⟨_, rfl⟩
               replace H : (dyad_Cover.l0 k3 (wrap64 (x0_2 + (shl .i64 1 x8_3))) a1 a2 y185) = some r := by first | (rw [hy185]; with_reducible exact H) | (have H2_ := (Option.bind_some _ _).symm.trans H; rw [hy185]; with_reducible exact H2_) | (have H2_ := (Option.bind_some _ _).symm.trans H; with_reducible exact H2_) | with_reducible exact H | (rw [hy185]; exact H) | exact H
               have Ny185 := mk0 hy185
               clear hy185
               have c25b0 := eq_true (of_decide_eq_true (by first | (with_reducible assumption) | assumption) : 0 ≤ x8_3)
               obtain ⟨ji26, hji26⟩ : ∃ j_ : Int, (shl .i64 1 x8_3) = j_ := ⟨_, rfl⟩
               replace H : (dyad_Cover.l0 k3 (wrap64 (x0_2 + (ji26))) a1 a2 y185) = some r := by first | (rw [hji26] at H; exact H) | (simp only [hji26] at H ⊢; exact H)
               have hji26_ : (IntKind.i64.wrap (1 * 2 ^ min x8_3.toNat 64)) = ji26 := hji26
               have hji26z : x8_3 ≤ 64 → (IntKind.i64.wrap (1 * 2 ^ x8_3.toNat)) = ji26 := shl_small hji26
               have hji26u : (IntKind.i64.wrap (2 ^ min x8_3.toNat 64)) = ji26 := by have h_ := hji26_; rw [Int.one_mul] at h_; exact h_
               have hji26v : x8_3 ≤ 64 → (IntKind.i64.wrap (2 ^ x8_3.toNat)) = ji26 := fun hle_ => by have h_ := hji26z hle_; rw [Int.one_mul] at h_; exact h_
               have hji26y : (wrap64 (1 * 2 ^ min x8_3.toNat 64)) = ji26 := (i64_w _).symm.trans hji26_
               have hji26x : x8_3 ≤ 64 → (wrap64 (1 * 2 ^ x8_3.toNat)) = ji26 := fun h_ => (i64_w _).symm.trans (hji26z h_)
               have H' := mk0 H
               clear H
               go_wp2_with (first | ((with_reducible refine gate_builtin (b := .append) (xs := #[.tmp 55, .tmp 63]) rfl ?_); at_builtin; refine Kd.R_append k194 (w0 := w) w.heap.size rfl (.tmp 55) (.tmp 63) 191 194 (.agg #[(.int .i64 0), (.int .i64 0)]) 16 rfl Tryz.underlying191 info194 rfl (by decide) (by omega) u7 x7_2 (⟨wrap64 (a2 - x8_3), ji23⟩ : S194) [.int .i64 (wrap64 (a2 - x8_3)), .int .i64 ji23] (fun _ => True) (fun _ => False) rfl rfl ?aP (fun _ hk => hk.elim) ?aF ?aO ?aB ?aS ?aL ?_; (case aP => exact k194_mkM _ _ _ (⟨wrap64 (a2 - x8_3), ji23⟩ : S194)); (case aB => exact (by repeat (first | (with_reducible first | exact HB.out | apply below_alloc | apply pw_below_drewN | apply below_drew1) | exact HB.out))); (case aF => exact (fun _ _ => trivial)); (case aO => exact (by (with_reducible repeat (first | apply Kd.R_alloc | apply Kd.R_drewN | apply Kd.R_drew)); exact HO_7.out)); (case aS => exact (below_size (by repeat (first | (with_reducible first | exact HB.out | apply below_alloc | apply pw_below_drewN | apply below_drew1) | exact HB.out)))); (case aL => have := LMc24.out; omega); intro v186 w27 ho hb hg hat; rw [← Ny185.out] at ho; have n0_ := mk0 (hb); have n1_ := mk0 (ho); clear HB; clear HO_7; have HB := n0_; have HO187 := n1_; clear n0_ n1_; clear ho hb hg hat))
               go_roundg k3
               case measure => have := HJ3.out; have := HK2.out; have := HK3.out; omega
               case rel => exact ⟨(wrap64 (x0_2 + (ji26))), (y185), (by first | rfl | (simp; done) | (simp only [← hji26] <;> (first | rfl | simp)) | (simp [*]; done)), H', ⟨by have := HJ3.out; have := HK2.out; have := HK3.out; omega⟩, ⟨by (with_reducible repeat (first | apply Kd.R_alloc | apply Kd.R_drewN | apply Kd.R_drew)); exact HO187.out⟩, ⟨by repeat (first | (with_reducible first | exact HB.out | apply below_alloc | apply pw_below_drewN | apply below_drew1) | exact HB.out)⟩⟩
              ·
               rw [if_neg c24] at H
               exact absurd H (by simp)
             ·
              rw [if_neg c22] at H
              exact absurd H (by simp)
           ·
            rw [if_neg c18] at H
            have c18b0 : ((Go.bits .and .i64 x0_2 (wrap64 ((ji17) - 1))) == 0) = false := beq_eq_false_iff_ne.mpr c18
            have c18b1 : ((Go.bits .and .i64 x0_2 (wrap64 ((ji17) - 1))) != 0) = true := bne_iff_ne.mpr c18
            by_cases c28 : 0 ≤ x8_3
            ·
             rw [if_pos c28] at H
             have c28b0 := eq_true c28
             have c28b1 : decide (0 ≤ x8_3) = true := decide_eq_true c28
             clear c28
             obtain ⟨ji29, hji29⟩ : ∃ j_ : Int, (shr .i64 x0_2 x8_3) = j_ := ⟨_, rfl⟩
             replace H : (if x7_2.length < 8796093022208 then (dyad_Cover.l0 k3 (wrap64 (x0_2 + (shl .i64 1 x8_3))) a1 a2 (x7_2 ++ [(⟨wrap64 (a2 - x8_3), ji29⟩ : S194)])) else (none)) = some r := by first | (rw [hji29] at H; exact H) | (simp only [hji29] at H ⊢; exact H)
             have hji29_ : (x0_2 / 2 ^ min x8_3.toNat 64) = ji29 := hji29
             have hji29z : x8_3 ≤ 64 → (x0_2 / 2 ^ x8_3.toNat) = ji29 := shr_small hji29
             by_cases c30 : x7_2.length < 8796093022208
             ·
              rw [if_pos c30] at H
              have LMc30 := mk0 c30
              clear c30
              obtain ⟨y188, hy188⟩ : ∃ y_ : List (S194), y_ = (x7_2 ++ [(⟨wrap64 (a2 - x8_3), ji29⟩ : S194)]) := ⟨_, rfl⟩
              replace H : (dyad_Cover.l0 k3 (wrap64 (x0_2 + (shl .i64 1 x8_3))) a1 a2 y188) = some r := by first | (rw [hy188]; with_reducible exact H) | (have H2_ := (Option.bind_some _ _).symm.trans H; rw [hy188]; with_reducible exact H2_) | (have H2_ := (Option.bind_some _ _).symm.trans H; with_reducible exact H2_) | with_reducible exact H | (rw [hy188]; exact H) | exact H
              have Ny188 := mk0 hy188
              clear hy188
              have c31b0 := eq_true (of_decide_eq_true (by first | (with_reducible assumption) | assumption) : 0 ≤ x8_3)
              obtain ⟨ji32, hji32⟩ : ∃ j_ : Int, (shl .i64 1 x8_3) = j_ := ⟨_, rfl⟩
              replace H : (dyad_Cover.l0 k3 (wrap64 (x0_2 + (ji32))) a1 a2 y188) = some r := by first | (rw [hji32] at H; exact H) | (simp only [hji32] at H ⊢; exact H)
              have hji32_ : (IntKind.i64.wrap (1 * 2 ^ min x8_3.toNat 64)) = ji32 := hji32
              have hji32z : x8_3 ≤ 64 → (IntKind.i64.wrap (1 * 2 ^ x8_3.toNat)) = ji32 := shl_small hji32
              have hji32u : (IntKind.i64.wrap (2 ^ min x8_3.toNat 64)) = ji32 := by have h_ := hji32_; rw [Int.one_mul] at h_; exact h_
              have hji32v : x8_3 ≤ 64 → (IntKind.i64.wrap (2 ^ x8_3.toNat)) = ji32 := fun hle_ => by have h_ := hji32z hle_; rw [Int.one_mul] at h_; exact h_
              have hji32y : (wrap64 (1 * 2 ^ min x8_3.toNat 64)) = ji32 := (i64_w _).symm.trans hji32_
              have hji32x : x8_3 ≤ 64 → (wrap64 (1 * 2 ^ x8_3.toNat)) = ji32 := fun h_ => (i64_w _).symm.trans (hji32z h_)
              have H' := mk0 H
              clear H
              go_wp2_with (first | ((with_reducible refine gate_builtin (b := .append) (xs := #[.tmp 55, .tmp 63]) rfl ?_); at_builtin; refine Kd.R_append k194 (w0 := w) w.heap.size rfl (.tmp 55) (.tmp 63) 191 194 (.agg #[(.int .i64 0), (.int .i64 0)]) 16 rfl Tryz.underlying191 info194 rfl (by decide) (by omega) u7 x7_2 (⟨wrap64 (a2 - x8_3), ji29⟩ : S194) [.int .i64 (wrap64 (a2 - x8_3)), .int .i64 ji29] (fun _ => True) (fun _ => False) rfl rfl ?aP (fun _ hk => hk.elim) ?aF ?aO ?aB ?aS ?aL ?_; (case aP => exact k194_mkM _ _ _ (⟨wrap64 (a2 - x8_3), ji29⟩ : S194)); (case aB => exact (by repeat (first | (with_reducible first | exact HB.out | apply below_alloc | apply pw_below_drewN | apply below_drew1) | exact HB.out))); (case aF => exact (fun _ _ => trivial)); (case aO => exact (by (with_reducible repeat (first | apply Kd.R_alloc | apply Kd.R_drewN | apply Kd.R_drew)); exact HO_7.out)); (case aS => exact (below_size (by repeat (first | (with_reducible first | exact HB.out | apply below_alloc | apply pw_below_drewN | apply below_drew1) | exact HB.out)))); (case aL => have := LMc30.out; omega); intro v189 w33 ho hb hg hat; rw [← Ny188.out] at ho; have n0_ := mk0 (hb); have n1_ := mk0 (ho); clear HB; clear HO_7; have HB := n0_; have HO190 := n1_; clear n0_ n1_; clear ho hb hg hat))
              go_roundg k3
              case measure => have := HJ3.out; have := HK2.out; have := HK3.out; omega
              case rel => exact ⟨(wrap64 (x0_2 + (ji32))), (y188), (by first | rfl | (simp; done) | (simp only [← hji32] <;> (first | rfl | simp)) | (simp [*]; done)), H', ⟨by have := HJ3.out; have := HK2.out; have := HK3.out; omega⟩, ⟨by (with_reducible repeat (first | apply Kd.R_alloc | apply Kd.R_drewN | apply Kd.R_drew)); exact HO190.out⟩, ⟨by repeat (first | (with_reducible first | exact HB.out | apply below_alloc | apply pw_below_drewN | apply below_drew1) | exact HB.out)⟩⟩
             ·
              rw [if_neg c30] at H
              exact absurd H (by simp)
            ·
             rw [if_neg c28] at H
             exact absurd H (by simp)
          ·
           rw [if_neg c16] at H
           exact absurd H (by simp)
         ·
          rw [if_neg c14] at H
          have c14b0 : decide (x8_3 < a2) = false := decide_eq_false c14
          clear c14
          by_cases c34 : 0 ≤ x8_3
          ·
           rw [if_pos c34] at H
           have c34b0 := eq_true c34
           have c34b1 : decide (0 ≤ x8_3) = true := decide_eq_true c34
           clear c34
           obtain ⟨ji35, hji35⟩ : ∃ j_ : Int, (shr .i64 x0_2 x8_3) = j_ := ⟨_, rfl⟩
           replace H : (if x7_2.length < 8796093022208 then (dyad_Cover.l0 k3 (wrap64 (x0_2 + (shl .i64 1 x8_3))) a1 a2 (x7_2 ++ [(⟨wrap64 (a2 - x8_3), ji35⟩ : S194)])) else (none)) = some r := by first | (rw [hji35] at H; exact H) | (simp only [hji35] at H ⊢; exact H)
           have hji35_ : (x0_2 / 2 ^ min x8_3.toNat 64) = ji35 := hji35
           have hji35z : x8_3 ≤ 64 → (x0_2 / 2 ^ x8_3.toNat) = ji35 := shr_small hji35
           by_cases c36 : x7_2.length < 8796093022208
           ·
            rw [if_pos c36] at H
            have LMc36 := mk0 c36
            clear c36
            obtain ⟨y191, hy191⟩ : ∃ y_ : List (S194), y_ = (x7_2 ++ [(⟨wrap64 (a2 - x8_3), ji35⟩ : S194)]) := ⟨_, rfl⟩
            replace H : (dyad_Cover.l0 k3 (wrap64 (x0_2 + (shl .i64 1 x8_3))) a1 a2 y191) = some r := by first | (rw [hy191]; with_reducible exact H) | (have H2_ := (Option.bind_some _ _).symm.trans H; rw [hy191]; with_reducible exact H2_) | (have H2_ := (Option.bind_some _ _).symm.trans H; with_reducible exact H2_) | with_reducible exact H | (rw [hy191]; exact H) | exact H
            have Ny191 := mk0 hy191
            clear hy191
            have c37b0 := eq_true (of_decide_eq_true (by first | (with_reducible assumption) | assumption) : 0 ≤ x8_3)
            obtain ⟨ji38, hji38⟩ : ∃ j_ : Int, (shl .i64 1 x8_3) = j_ := ⟨_, rfl⟩
            replace H : (dyad_Cover.l0 k3 (wrap64 (x0_2 + (ji38))) a1 a2 y191) = some r := by first | (rw [hji38] at H; exact H) | (simp only [hji38] at H ⊢; exact H)
            have hji38_ : (IntKind.i64.wrap (1 * 2 ^ min x8_3.toNat 64)) = ji38 := hji38
            have hji38z : x8_3 ≤ 64 → (IntKind.i64.wrap (1 * 2 ^ x8_3.toNat)) = ji38 := shl_small hji38
            have hji38u : (IntKind.i64.wrap (2 ^ min x8_3.toNat 64)) = ji38 := by have h_ := hji38_; rw [Int.one_mul] at h_; exact h_
            have hji38v : x8_3 ≤ 64 → (IntKind.i64.wrap (2 ^ x8_3.toNat)) = ji38 := fun hle_ => by have h_ := hji38z hle_; rw [Int.one_mul] at h_; exact h_
            have hji38y : (wrap64 (1 * 2 ^ min x8_3.toNat 64)) = ji38 := (i64_w _).symm.trans hji38_
            have hji38x : x8_3 ≤ 64 → (wrap64 (1 * 2 ^ x8_3.toNat)) = ji38 := fun h_ => (i64_w _).symm.trans (hji38z h_)
            have H' := mk0 H
            clear H
            go_wp2_with (first | ((with_reducible refine gate_builtin (b := .append) (xs := #[.tmp 55, .tmp 63]) rfl ?_); at_builtin; refine Kd.R_append k194 (w0 := w) w.heap.size rfl (.tmp 55) (.tmp 63) 191 194 (.agg #[(.int .i64 0), (.int .i64 0)]) 16 rfl Tryz.underlying191 info194 rfl (by decide) (by omega) u7 x7_2 (⟨wrap64 (a2 - x8_3), ji35⟩ : S194) [.int .i64 (wrap64 (a2 - x8_3)), .int .i64 ji35] (fun _ => True) (fun _ => False) rfl rfl ?aP (fun _ hk => hk.elim) ?aF ?aO ?aB ?aS ?aL ?_; (case aP => exact k194_mkM _ _ _ (⟨wrap64 (a2 - x8_3), ji35⟩ : S194)); (case aB => exact (by repeat (first | (with_reducible first | exact HB.out | apply below_alloc | apply pw_below_drewN | apply below_drew1) | exact HB.out))); (case aF => exact (fun _ _ => trivial)); (case aO => exact (by (with_reducible repeat (first | apply Kd.R_alloc | apply Kd.R_drewN | apply Kd.R_drew)); exact HO_7.out)); (case aS => exact (below_size (by repeat (first | (with_reducible first | exact HB.out | apply below_alloc | apply pw_below_drewN | apply below_drew1) | exact HB.out)))); (case aL => have := LMc36.out; omega); intro v192 w39 ho hb hg hat; rw [← Ny191.out] at ho; have n0_ := mk0 (hb); have n1_ := mk0 (ho); clear HB; clear HO_7; have HB := n0_; have HO193 := n1_; clear n0_ n1_; clear ho hb hg hat))
            go_roundg k3
            case measure => have := HJ3.out; have := HK2.out; have := HK3.out; omega
            case rel => exact ⟨(wrap64 (x0_2 + (ji38))), (y191), (by first | rfl | (simp; done) | (simp only [← hji38] <;> (first | rfl | simp)) | (simp [*]; done)), H', ⟨by have := HJ3.out; have := HK2.out; have := HK3.out; omega⟩, ⟨by (with_reducible repeat (first | apply Kd.R_alloc | apply Kd.R_drewN | apply Kd.R_drew)); exact HO193.out⟩, ⟨by repeat (first | (with_reducible first | exact HB.out | apply below_alloc | apply pw_below_drewN | apply below_drew1) | exact HB.out)⟩⟩
           ·
            rw [if_neg c36] at H
            exact absurd H (by simp)
          ·
           rw [if_neg c34] at H
           exact absurd H (by simp)
      ·
       rw [if_neg c13] at H
       have c13b0 : decide (x0_2 ≤ a1) = false := decide_eq_false c13
       clear c13
       obtain rfl := Option.some.inj H
       go_wp2
       go_ret
       exact ⟨_, by first | rfl | (simp [errW_none, errW_some] <;> rfl) | (simp [*, errW_none, errW_some] <;> rfl), by (with_reducible repeat (first | apply Kd.R_alloc | apply Kd.R_drewN | apply Kd.R_drew)); exact HO_7.out, by repeat (first | (with_reducible first | exact HB.out | apply below_alloc | apply pw_below_drewN | apply below_drew1) | exact HB.out)⟩
def dyad_Chain.l0 : Nat → Int → Int → List (S194) → Int → Option ((List (S194)))
 | 0, _, _, _, _ => none
 | k + 1, x0, x1, x5, x6 => if x6 ≤ x1 then (if 0 ≤ (wrap64 (x1 - x6)) then (if x5.length < 8796093022208 then (dyad_Chain.l0 k x0 x1 (x5 ++ [(⟨x6, shr .i64 x0 (wrap64 (x1 - x6))⟩ : S194)]) (wrap64 (x6 + 1))) else (none)) else (none)) else (some x5)
def dyad_Chain.f (k : Nat) (a0 : Int) (a1 : Int) : Option ((List (S194))) := (dyad_Good.f a1 a0 a1).bind fun t222 => (if t222 = true then (dyad_Chain.l0 k a0 a1 ([] : List (S194)) 0) else (some ([] : List (S194))))
theorem dyad_Chain.mono_l : ∀ k, (∀ y0 y1 y2 y3, LeO (dyad_Chain.l0 k y0 y1 y2 y3) (dyad_Chain.l0 (k + 1) y0 y1 y2 y3))
 | 0 => fun _ _ _ _ r h => by simp [dyad_Chain.l0] at h
 | k + 1 => by
  have ih0 := dyad_Chain.mono_l k
  ·
   intro y0 y1 y2 y3
   unfold dyad_Chain.l0
   repeat' first
   | (with_reducible exact ih0 _ _ _ _)
   | (with_reducible exact LeO.refl _)
   | (with_reducible exact LeO.none _)
   | (with_reducible refine LeO.ite ?_ ?_)
   | (with_reducible refine LeO.bind ?_ (fun _ => ?_))
   | exact ih0 _ _ _ _
   | exact LeO.none _
   | refine LeO.ite ?_ ?_
   | refine LeO.bind ?_ (fun _ => ?_)
theorem dyad_Chain.mono : ∀ a0 a1 k, LeO (dyad_Chain.f k a0 a1) (dyad_Chain.f (k + 1) a0 a1) := by
 intro a0 a1 k
 have ih0 := dyad_Chain.mono_l k
 unfold dyad_Chain.f
 repeat' first
  | (with_reducible exact ih0 _ _ _ _)
  | (with_reducible exact LeO.refl _)
  | (with_reducible exact LeO.none _)
  | (with_reducible refine LeO.ite ?_ ?_)
  | (with_reducible refine LeO.bind ?_ (fun _ => ?_))
  | exact ih0 _ _ _ _
  | exact LeO.none _
  | refine LeO.ite ?_ ?_
  | refine LeO.bind ?_ (fun _ => ?_)
set_option maxHeartbeats 8000000 in
theorem dyad_Chain.calls (k : Nat) (a0 : Int) (a1 : Int) (r : List (S194)) (w : World) (h : dyad_Chain.f k a0 a1 = some r) :
 Calls Tryz.prog 95 #[.int .i64 a0, .int .i64 a1] w fun e w' => ∃ v0_ : Value, e = .returned (v0_) ∧ Kd.R k194 194 w' w.heap.size (fun _ => True) v0_ r ∧ Below w.heap.size w w' := by
 have hu194 := Tryz.underlying194
 have HB := mk0 (Below.refl w.heap.size w)
 have H : ((dyad_Good.f a1 a0 a1).bind fun t222 => (if t222 = true then (dyad_Chain.l0 k a0 a1 ([] : List (S194)) 0) else (some ([] : List (S194))))) = some r := h
 clear h
 replace H := Option.bind_eq_some_iff.mp H
 obtain ⟨t222, A30, H⟩ := H
 replace H : (if t222 = true then (dyad_Chain.l0 k a0 a1 ([] : List (S194)) 0) else (some ([] : List (S194)))) = some r := H
 have A3 := mk0 A30
 clear A30
 by_cases c4 : t222 = true
 ·
  subst c4
  have H1 : (dyad_Chain.l0 k a0 a1 ([] : List (S194)) 0) = some r := by rw [if_pos rfl] at H; exact H
  clear H
  have H := H1
  clear H1
  have H' := mk0 H
  clear H
  go_enter Tryz.func95, Tryz.ntmps95
  go_wp2_with (first | ((with_reducible refine gate_callee (f := 153) rfl ?_); refine goesL_ (some 11) rfl rfl Tryz.func153 (by kernel_rfl) rfl #[.agg #[.int .i64 a1, .int .i64 a0], .int .i64 a1] rfl (by (try simp only [List.map_toArray, List.map_cons, List.map_nil]); first | done | rfl | (simp only [List.length_drop, List.length_take]; rfl)) ?_; (with_reducible refine (dyad_Good.calls a1 a0 a1 true _ A3.out).mono ?_); rintro e w5 ⟨rfl, hb⟩; refine ⟨_, rfl, ?_⟩; have n0_ := mk0 (below_step (by repeat (first | (with_reducible first | exact HB.out | apply below_alloc | apply pw_below_drewN | apply below_drew1) | exact HB.out)) hb); clear HB; have HB := n0_; clear n0_; (try clear hb); (try clear hb2); (try clear hk); (try clear hi)))
  go_loopg [5, 6] k (fun kq v5 v6 w' => ∃ (x5_1 : List (S194)) (x6_1 : Int), v6 = .int .i64 x6_1 ∧ Aside0 (dyad_Chain.l0 kq a0 a1 x5_1 x6_1 = some r) ∧ Aside0 (kq ≤ k) ∧ Aside0 (Kd.R k194 194 w' w.heap.size (fun _ => True) v5 x5_1) ∧ Aside0 (Below w.heap.size w w'))
  case atStart => exact ⟨(([] : List (S194))), (0), (by first | rfl | (simp; done) | (simp [*]; done)), H', ⟨Nat.le_refl _⟩, ⟨by first | exact Kd.R_nil _ _ _ _ _ | exact Kd.N_nil _ _ _ _ _ | exact Kd.V_nil _ _ _ _ _ | exact Kd.Q_nil _ _ _ _ _ | exact Kd.S_nil _ _ _ _ _⟩, ⟨by repeat (first | (with_reducible first | exact HB.out | apply below_alloc | apply pw_below_drewN | apply below_drew1) | exact HB.out)⟩⟩
  case round =>
   clear H'
   try clear c1
   try clear p2
   try clear c4
   obtain ⟨x5_1, x6_1, rfl, HA, HK1, HO_5, HB⟩ := hrel
   cases gk with
   | zero => exact absurd HA.out (by simp [dyad_Chain.l0])
   | succ k1 =>
    have H := HA.out
    clear HA
    simp only [dyad_Chain.l0] at H
    by_cases c6 : x6_1 ≤ a1
    ·
     rw [if_pos c6] at H
     have c6b0 : decide (x6_1 ≤ a1) = true := decide_eq_true c6
     clear c6
     obtain ⟨ji7, hji7⟩ : ∃ j_ : Int, (wrap64 (a1 - x6_1)) = j_ := ⟨_, rfl⟩
     replace H : (if 0 ≤ (ji7) then (if x5_1.length < 8796093022208 then (dyad_Chain.l0 k1 a0 a1 (x5_1 ++ [(⟨x6_1, shr .i64 a0 (ji7)⟩ : S194)]) (wrap64 (x6_1 + 1))) else (none)) else (none)) = some r := by first | (rw [hji7] at H; exact H) | (simp only [hji7] at H ⊢; exact H)
     have hji7w : (IntKind.i64.wrap (a1 - x6_1)) = ji7 := (i64_w _).trans hji7
     by_cases c8 : 0 ≤ (ji7)
     ·
      rw [if_pos c8] at H
      have c8b0 := eq_true c8
      have c8b1 : decide (0 ≤ (ji7)) = true := decide_eq_true c8
      clear c8
      obtain ⟨ji9, hji9⟩ : ∃ j_ : Int, (shr .i64 a0 (ji7)) = j_ := ⟨_, rfl⟩
      replace H : (if x5_1.length < 8796093022208 then (dyad_Chain.l0 k1 a0 a1 (x5_1 ++ [(⟨x6_1, ji9⟩ : S194)]) (wrap64 (x6_1 + 1))) else (none)) = some r := by first | (rw [hji9] at H; exact H) | (simp only [hji9] at H ⊢; exact H)
      have hji9_ : (a0 / 2 ^ min (ji7).toNat 64) = ji9 := hji9
      have hji9z : (ji7) ≤ 64 → (a0 / 2 ^ (ji7).toNat) = ji9 := shr_small hji9
      by_cases c10 : x5_1.length < 8796093022208
      ·
       rw [if_pos c10] at H
       have LMc10 := mk0 c10
       clear c10
       obtain ⟨y223, hy223⟩ : ∃ y_ : List (S194), y_ = (x5_1 ++ [(⟨x6_1, ji9⟩ : S194)]) := ⟨_, rfl⟩
       replace H : (dyad_Chain.l0 k1 a0 a1 y223 (wrap64 (x6_1 + 1))) = some r := by first | (rw [hy223]; with_reducible exact H) | (have H2_ := (Option.bind_some _ _).symm.trans H; rw [hy223]; with_reducible exact H2_) | (have H2_ := (Option.bind_some _ _).symm.trans H; with_reducible exact H2_) | with_reducible exact H | (rw [hy223]; exact H) | exact H
       have Ny223 := mk0 hy223
       clear hy223
       have H' := mk0 H
       clear H
       go_wp2_with (first | ((with_reducible refine gate_builtin (b := .append) (xs := #[.tmp 18, .tmp 26]) rfl ?_); at_builtin; refine Kd.R_append k194 (w0 := w) w.heap.size rfl (.tmp 18) (.tmp 26) 191 194 (.agg #[(.int .i64 0), (.int .i64 0)]) 16 rfl Tryz.underlying191 info194 rfl (by decide) (by omega) u5 x5_1 (⟨x6_1, ji9⟩ : S194) [.int .i64 x6_1, .int .i64 ji9] (fun _ => True) (fun _ => False) rfl rfl ?aP (fun _ hk => hk.elim) ?aF ?aO ?aB ?aS ?aL ?_; (case aP => exact k194_mkM _ _ _ (⟨x6_1, ji9⟩ : S194)); (case aB => exact (by repeat (first | (with_reducible first | exact HB.out | apply below_alloc | apply pw_below_drewN | apply below_drew1) | exact HB.out))); (case aF => exact (fun _ _ => trivial)); (case aO => exact (by (with_reducible repeat (first | apply Kd.R_alloc | apply Kd.R_drewN | apply Kd.R_drew)); exact HO_5.out)); (case aS => exact (below_size (by repeat (first | (with_reducible first | exact HB.out | apply below_alloc | apply pw_below_drewN | apply below_drew1) | exact HB.out)))); (case aL => have := LMc10.out; omega); intro v224 w11 ho hb hg hat; rw [← Ny223.out] at ho; have n0_ := mk0 (hb); have n1_ := mk0 (ho); clear HB; clear HO_5; have HB := n0_; have HO225 := n1_; clear n0_ n1_; clear ho hb hg hat))
       go_roundg k1
       case measure => have := HK1.out; omega
       case rel => exact ⟨(y223), (wrap64 (x6_1 + 1)), (by first | rfl | (simp; done) | (simp [*]; done)), H', ⟨by have := HK1.out; omega⟩, ⟨by (with_reducible repeat (first | apply Kd.R_alloc | apply Kd.R_drewN | apply Kd.R_drew)); exact HO225.out⟩, ⟨by repeat (first | (with_reducible first | exact HB.out | apply below_alloc | apply pw_below_drewN | apply below_drew1) | exact HB.out)⟩⟩
      ·
       rw [if_neg c10] at H
       exact absurd H (by simp)
     ·
      rw [if_neg c8] at H
      exact absurd H (by simp)
    ·
     rw [if_neg c6] at H
     have c6b0 : decide (x6_1 ≤ a1) = false := decide_eq_false c6
     clear c6
     obtain rfl := Option.some.inj H
     go_wp2
     go_ret
     exact ⟨_, by first | rfl | (simp [errW_none, errW_some] <;> rfl) | (simp [*, errW_none, errW_some] <;> rfl), by (with_reducible repeat (first | apply Kd.R_alloc | apply Kd.R_drewN | apply Kd.R_drew)); exact HO_5.out, by repeat (first | (with_reducible first | exact HB.out | apply below_alloc | apply pw_below_drewN | apply below_drew1) | exact HB.out)⟩
 ·
  replace c4 := Bool.eq_false_iff.mpr c4
  subst c4
  have H1 : (some ([] : List (S194))) = some r := by rw [if_neg (show ¬ (false = true) by decide)] at H; exact H
  clear H
  have H := H1
  clear H1
  obtain rfl := Option.some.inj H
  go_enter Tryz.func95, Tryz.ntmps95
  go_wp2_with (first | ((with_reducible refine gate_callee (f := 153) rfl ?_); refine goesL_ (some 11) rfl rfl Tryz.func153 (by kernel_rfl) rfl #[.agg #[.int .i64 a1, .int .i64 a0], .int .i64 a1] rfl (by (try simp only [List.map_toArray, List.map_cons, List.map_nil]); first | done | rfl | (simp only [List.length_drop, List.length_take]; rfl)) ?_; (with_reducible refine (dyad_Good.calls a1 a0 a1 false _ A3.out).mono ?_); rintro e w12 ⟨rfl, hb⟩; refine ⟨_, rfl, ?_⟩; have n0_ := mk0 (below_step (by repeat (first | (with_reducible first | exact HB.out | apply below_alloc | apply pw_below_drewN | apply below_drew1) | exact HB.out)) hb); clear HB; have HB := n0_; clear n0_; (try clear hb); (try clear hb2); (try clear hk); (try clear hi)))
  go_ret
  exact ⟨_, by first | rfl | (simp [errW_none, errW_some] <;> rfl) | (simp [*, errW_none, errW_some] <;> rfl), by first | exact Kd.R_nil _ _ _ _ _ | exact Kd.N_nil _ _ _ _ _ | exact Kd.V_nil _ _ _ _ _ | exact Kd.Q_nil _ _ _ _ _ | exact Kd.S_nil _ _ _ _ _, by repeat (first | (with_reducible first | exact HB.out | apply below_alloc | apply pw_below_drewN | apply below_drew1) | exact HB.out)⟩
end Go.Proofs.YtnmpijbcajclgaaGreatDoor.PNodeAlone
end
section
namespace Go.Proofs.YtnmpijbcajclgaaGreatDoor.Mine
open Go.RowKit YtnmpijbcajclgaaGreatDoorW.PrintWords YtnmpijbcajclgaaGreatDoorW.PrintLast YtnmpijbcajclgaaGreatDoorW.PrintMore
open PNodeAlone
theorem w64 {n : Int} (h : -9223372036854775808 ≤ n) (h2 : n ≤ 9223372036854775807) : wrap64 n = n := by unfold wrap64; omega
theorem wi64 {n : Int} (h : -9223372036854775808 ≤ n) (h2 : n ≤ 9223372036854775807) : IntKind.i64.wrap n = n := by
 have h3 : (2 ^ IntKind.i64.bits : Int) = 18446744073709551616 := by decide
 have h4 : (2 ^ (IntKind.i64.bits - 1) : Int) = 9223372036854775808 := by decide
 unfold IntKind.wrap
 simp only [h3, h4, show IntKind.i64.signed = true from rfl, Bool.true_and, decide_eq_true_eq]
 split <;> omega
theorem pow8 (k : Nat) (h : k ≤ 8) : 1 ≤ (2 : Int) ^ k ∧ (2 : Int) ^ k ≤ 256 := by
 have : k = 0 ∨ k = 1 ∨ k = 2 ∨ k = 3 ∨ k = 4 ∨ k = 5 ∨ k = 6 ∨ k = 7 ∨ k = 8 := by omega
 rcases this with rfl | rfl | rfl | rfl | rfl | rfl | rfl | rfl | rfl <;> decide
theorem shl_i64 (x : Int) (k : Nat) (h0 : 0 ≤ x) (h1 : x ≤ 4294967296) (hk : k ≤ 8) : shl .i64 x (k : Int) = x * 2 ^ k := by
 unfold shl
 rw [Int.toNat_natCast, Nat.min_eq_left (by show k ≤ 64; omega)]
 obtain ⟨h2, h3⟩ := pow8 k hk
 have h4 : x * 2 ^ k ≤ x * 256 := Int.mul_le_mul_of_nonneg_left h3 h0
 have h5 : 0 ≤ x * 2 ^ k := Int.mul_nonneg h0 (by omega)
 exact wi64 (by omega) (by omega)
theorem shl_one (k : Nat) (hk : k ≤ 8) : shl .i64 1 (k : Int) = 2 ^ k := by rw [shl_i64 1 k (by omega) (by omega) hk, Int.one_mul]
theorem bits_or_i64_nat (a b : Nat) (ha : a < 65536) (hb : b < 65536) : ∃ n : Nat, Go.bits .or .i64 (a : Int) (b : Int) = (n : Int) ∧ n < 65536 := by
 refine ⟨a ||| b, ?_, Nat.or_lt_two_pow (n := 16) (by omega) (by omega)⟩
 have hx : a ||| b < 2 ^ 16 := Nat.or_lt_two_pow (n := 16) (by omega) (by omega)
 have h1 : (BitVec.ofInt 64 (a : Int)).toNat = a := by rw [BitVec.ofInt_natCast, BitVec.toNat_ofNat]; exact Nat.mod_eq_of_lt (by omega)
 have h2 : (BitVec.ofInt 64 (b : Int)).toNat = b := by rw [BitVec.ofInt_natCast, BitVec.toNat_ofNat]; exact Nat.mod_eq_of_lt (by omega)
 show IntKind.i64.wrap ((BitVec.ofInt 64 (a : Int) ||| BitVec.ofInt 64 (b : Int)).toNat : Int) = _
 rw [BitVec.toNat_or, h1, h2]
 exact wi64 (by omega) (by omega)
def AtOk (k mn mx : Int) : Prop := k = 1 → -2147483648 ≤ mn ∧ mx ≤ 2147483648 ∧ mn ≤ mx
theorem byte_step (s : ByteArray) (n : Nat) (i : Int) (hn : n < 256) : ∃ m : Nat, Go.bits .or .i64 (wrap64 ((n : Int) * 256)) (wrap64 (bt s i)) = (m : Int) ∧ m < 65536 ∧ (n = 0 → m < 256) := by
 obtain ⟨h0, h1⟩ := bt_range s i
 obtain ⟨b, hb⟩ := Int.eq_ofNat_of_zero_le h0
 rw [hb] at h1 ⊢
 rw [w64 (by omega) (by omega), w64 (by omega) (by omega)]
 obtain ⟨m, hm, hlt⟩ := bits_or_i64_nat (n * 256) b (by omega) (by omega)
 rw [show ((n * 256 : Nat) : Int) = (n : Int) * 256 by omega] at hm
 refine ⟨m, hm, hlt, fun hz => ?_⟩
 subst hz
 have hx : 0 ||| b < 2 ^ 8 := Nat.or_lt_two_pow (n := 8) (by omega) (by omega)
 have h1' : (BitVec.ofInt 64 (0 : Int)).toNat = 0 := by decide
 have h2 : (BitVec.ofInt 64 (b : Int)).toNat = b := by rw [BitVec.ofInt_natCast, BitVec.toNat_ofNat]; exact Nat.mod_eq_of_lt (by omega)
 have : IntKind.i64.wrap ((BitVec.ofInt 64 (((0 : Nat) : Int) * 256) ||| BitVec.ofInt 64 (b : Int)).toNat : Int) = (m : Int) := hm
 rw [show (((0 : Nat) : Int) * 256) = 0 from rfl, BitVec.toNat_or, h1', h2, wi64 (by omega) (by omega)] at this
 omega
theorem shr_cell (x : Nat) (L : Nat) (hx : x < 65536) (hL : L ≤ 8) : 0 ≤ shr .i64 (x : Int) (wrap64 (16 - (L : Int))) ∧ shr .i64 (x : Int) (wrap64 (16 - (L : Int))) < 2 ^ L := by
 rw [w64 (by omega) (by omega)]
 unfold shr
 have e : (16 - (L : Int)).toNat = 16 - L := by omega
 rw [e, Nat.min_eq_left (by show 16 - L ≤ 64; omega)]
 have : L = 0 ∨ L = 1 ∨ L = 2 ∨ L = 3 ∨ L = 4 ∨ L = 5 ∨ L = 6 ∨ L = 7 ∨ L = 8 := by omega
 rcases this with rfl | rfl | rfl | rfl | rfl | rfl | rfl | rfl | rfl <;> simp <;> omega
theorem cell_l0_end (L x : Nat) (v : Int) (s : ByteArray) (hL : L ≤ 8) (hx : x < 65536) (k : Nat) : ∃ r, dyad_Cell.l0 (k + 1) (L : Int) (x : Int) 2 v s = some r ∧ 0 ≤ r ∧ r < 2 ^ L := by
 obtain ⟨h1, h2⟩ := shr_cell x L hx hL
 refine ⟨_, ?_, h1, h2⟩
 unfold dyad_Cell.l0
 rw [if_neg (by omega), if_pos (by rw [w64 (by omega) (by omega)]; omega)]
theorem cell_l0_step (L x : Nat) (i : Nat) (v : Int) (s : ByteArray) (hi : i < 2) (hx : x < 256) (k : Nat) : ∃ y : Nat, dyad_Cell.l0 (k + 1) (L : Int) (x : Int) (i : Int) v s = dyad_Cell.l0 k (L : Int) (y : Int) ((i + 1 : Nat) : Int) v s ∧ y < 65536 ∧ (x = 0 → y < 256) := by
 have e : wrap64 ((i : Int) + 1) = ((i + 1 : Nat) : Int) := by rw [w64 (by omega) (by omega)]; omega
 by_cases h : (i : Int) < (s.size : Int)
 ·
  obtain ⟨y, h1, h2, h3⟩ := byte_step s x (i : Int) hx
  refine ⟨y, ?_, h2, h3⟩
  rw [dyad_Cell.l0, if_pos (by omega), if_pos h, if_pos (by omega), h1, e]
 ·
  refine ⟨x * 256, ?_, by omega, by omega⟩
  rw [dyad_Cell.l0, if_pos (by omega), if_neg h, e, w64 (by omega) (by omega)]
  rfl
theorem cell_total (nm s : ByteArray) (kd mn mx v : Int) (L : Nat) (hL : L ≤ 8) (ha : AtOk kd mn mx) : ∃ r, dyad_Cell.f 4 nm kd mn mx v s (L : Int) = some r ∧ ((kd = 1 → mn ≤ v ∧ v ≤ mx) → 0 ≤ r ∧ r < 2 ^ L) := by
 have hd : decide ((L : Int) > 8) = false := decide_eq_false (by omega)
 unfold dyad_Cell.f
 rw [if_neg (by omega), hd]
 rw [dyad_Cell.j0, if_neg (by decide)]
 by_cases hk : kd = 1
 ·
  obtain ⟨h1, h2, h3⟩ := ha hk
  rw [if_pos hk]
  by_cases c1 : v < mn
  ·
   exact ⟨-1, by rw [if_pos c1], fun h => by have := h hk; omega⟩
  ·
   rw [if_neg c1]
   by_cases c2 : v > mx
   ·
    exact ⟨-1, by rw [if_pos c2], fun h => by have := h hk; omega⟩
   ·
    rw [if_neg c2, if_neg (by omega), if_neg (by omega), if_pos (by omega), w64 (n := mx - mn) (by omega) (by omega), w64 (n := mx - mn + 1) (by omega) (by omega), w64 (n := v - mn) (by omega) (by omega), if_neg (by omega), shl_i64 _ L (by omega) (by omega) hL]
    obtain ⟨p1, p2⟩ := pow8 L hL
    have q1 : 0 ≤ (v - mn) * 2 ^ L := Int.mul_nonneg (by omega) (by omega)
    have q2 : (v - mn) * 2 ^ L < (mx - mn + 1) * 2 ^ L := Int.mul_lt_mul_of_pos_right (by omega) (by omega)
    have q3 : ((v - mn) * 2 ^ L).tdiv (mx - mn + 1) = ((v - mn) * 2 ^ L) / (mx - mn + 1) := Int.tdiv_eq_ediv_of_nonneg q1
    have q4 : 0 ≤ ((v - mn) * 2 ^ L) / (mx - mn + 1) := Int.ediv_nonneg q1 (by omega)
    have q5 : ((v - mn) * 2 ^ L) / (mx - mn + 1) < 2 ^ L := Int.ediv_lt_of_lt_mul (by omega) (by rw [Int.mul_comm (2 ^ L)]; exact q2)
    rw [q3, w64 (by omega) (by omega)]
    exact ⟨_, rfl, fun _ => ⟨q4, q5⟩⟩
 ·
  rw [if_neg hk]
  obtain ⟨y, e1, h1, h2⟩ := cell_l0_step L 0 0 v s (by omega) (by omega) 2
  obtain ⟨z, e2, h3, _⟩ := cell_l0_step L y 1 v s (by omega) (h2 rfl) 1
  obtain ⟨r, e3, h4, h5⟩ := cell_l0_end L z v s hL h3 0
  exact ⟨r, (e1.trans e2).trans e3, fun _ => ⟨h4, h5⟩⟩
theorem range_total (nm pn ps : ByteArray) (kd mn mx op lo hi : Int) (L : Nat) (hL : L ≤ 8) (ha : AtOk kd mn mx) (hs : ps.size ≤ 1000000) : ∃ r1 r2, dyad_Range.f 4 nm kd mn mx pn op lo hi ps (L : Int) = some (r1, r2) := by
 unfold dyad_Range.f
 have c := fun v s => cell_total nm s kd mn mx v L hL ha
 by_cases h1 : op = 1
 ·
  obtain ⟨r1, e1, _⟩ := c lo ⟨#[]⟩
  obtain ⟨r2, e2, _⟩ := c hi ⟨#[]⟩
  exact ⟨r1, r2, by rw [if_pos h1, e1, e2]; rfl⟩
 ·
  rw [if_neg h1]
  obtain ⟨r1, e1, _⟩ := c 0 ps
  by_cases h2 : op = 2
  ·
   exact ⟨r1, r1, by rw [if_pos h2, e1]; rfl⟩
  ·
   obtain ⟨r2, e2, _⟩ := c 0 (ps ++ (⟨#[255, 255]⟩ : ByteArray))
   exact ⟨r1, r2, by rw [if_neg h2, e1, e2]; show (if ps.size + 2 ≤ 9223372036854775807 then _ else _) = _; rw [if_pos (by omega)]; rfl⟩
theorem good_total (L : Nat) (c : Int) (hL : L ≤ 8) : dyad_Good.f (L : Int) c (L : Int) = some (decide (0 ≤ c ∧ c < 2 ^ L)) := by
 unfold dyad_Good.f
 rw [if_pos (by omega), if_pos (by omega), if_pos (by omega), if_pos (by omega)]
 by_cases h : c ≥ 0
 ·
  rw [if_pos h, if_pos (by omega), shl_one L hL]
  have : (0 ≤ c ∧ c < 2 ^ L) ↔ c < 2 ^ L := ⟨fun h => h.2, fun h2 => ⟨h, h2⟩⟩
  simp only [this]
 ·
  rw [if_neg h]
  have : ¬ (0 ≤ c ∧ c < 2 ^ L) := fun h2 => h h2.1
  rw [decide_eq_false this]
def IvOk (x : S194) : Prop := (-9223372036854775808 ≤ x.f0 ∧ x.f0 ≤ 9223372036854775807) ∧ -9223372036854775808 ≤ x.f1 ∧ x.f1 ≤ 9223372036854775807
def IvsOk (l : List S194) : Prop := ∀ x ∈ l, IvOk x
theorem IvsOk.snoc {l : List S194} {x : S194} (h : IvsOk l) (hx : IvOk x) : IvsOk (l ++ [x]) := fun y hy => by
 rcases List.mem_append.1 hy with hy | hy
 ·
  exact h y hy
 ·
  rw [List.mem_singleton.1 hy]; exact hx
theorem wrap64_in (n : Int) : -9223372036854775808 ≤ wrap64 n ∧ wrap64 n ≤ 9223372036854775807 := by unfold wrap64; omega
theorem shr_ok (c : Int) (k : Int) (h0 : 0 ≤ c) (h1 : c ≤ 1000) : -9223372036854775808 ≤ shr .i64 c k ∧ shr .i64 c k ≤ 9223372036854775807 := by
 unfold shr
 generalize min k.toNat IntKind.i64.bits = j
 have hp : (0 : Int) < 2 ^ j := Int.pow_pos (by decide)
 have h2 := Int.ediv_nonneg h0 (Int.le_of_lt hp)
 have h3 : c / 2 ^ j ≤ c := Int.ediv_le_self _ h0
 omega
def CovEnd (hi : Int) (L : Nat) (m : Nat) : Prop := ∀ (lo : Int) (acc : List S194), 0 ≤ lo → lo ≤ 1000 → (hi + 1 - lo).toNat ≤ m → acc.length + m ≤ 1000 → IvsOk acc → ∃ k r, dyad_Cover.l0 k lo hi (L : Int) acc = some r ∧ r.length ≤ acc.length + m ∧ IvsOk r
theorem cov_out {L m : Nat} {hi : Int} (hL : L ≤ 8) (hh : hi < 256) (ih : CovEnd hi L m) {lo : Int} {acc : List S194} (h0 : 0 ≤ lo) (hm : (hi + 1 - lo).toNat ≤ m + 1) (ha : acc.length + (m + 1) ≤ 1000) (hx : IvsOk acc) (hc : lo ≤ hi) (b : Nat) (hb : b ≤ L) : ∃ k r, (if (0 : Int) ≤ (b : Int) then (if acc.length < 8796093022208 then dyad_Cover.l0 k (wrap64 (lo + shl .i64 1 (b : Int))) hi (L : Int) (acc ++ [(⟨wrap64 ((L : Int) - (b : Int)), shr .i64 lo (b : Int)⟩ : S194)]) else none) else none) = some r ∧ r.length ≤ acc.length + (m + 1) ∧ IvsOk r := by
 obtain ⟨p1, p2⟩ := pow8 b (Nat.le_trans hb hL)
 have c1 : (0 : Int) ≤ (b : Int) := Int.natCast_nonneg _
 have c2 : acc.length < 8796093022208 := by omega
 have e1 : wrap64 (lo + shl .i64 1 (b : Int)) = lo + 2 ^ b := by
  rw [shl_one b (Nat.le_trans hb hL)]
  generalize (2 : Int) ^ b = z at p1 p2 ⊢
  exact w64 (by omega) (by omega)
 rw [e1]
 obtain ⟨k, r, e, hr, hy⟩ := ih (lo + 2 ^ b) (acc ++ [(⟨wrap64 ((L : Int) - (b : Int)), shr .i64 lo (b : Int)⟩ : S194)]) (by generalize (2 : Int) ^ b = z at p1 p2 ⊢; omega) (by generalize (2 : Int) ^ b = z at p1 p2 ⊢; omega) (by generalize (2 : Int) ^ b = z at p1 p2 ⊢; omega) (by rw [List.length_append, List.length_singleton]; omega) (hx.snoc ⟨wrap64_in _, shr_ok lo _ h0 (by omega)⟩)
 refine ⟨k, r, by rw [if_pos c1, if_pos c2]; exact e, ?_⟩
 rw [List.length_append, List.length_singleton] at hr
 exact ⟨by omega, hy⟩
theorem cov_in {L m : Nat} {hi : Int} (hL : L ≤ 8) {lo : Int} {acc : List S194} (out : ∀ b : Nat, b ≤ L → ∃ k r, (if (0 : Int) ≤ (b : Int) then (if acc.length < 8796093022208 then dyad_Cover.l0 k (wrap64 (lo + shl .i64 1 (b : Int))) hi (L : Int) (acc ++ [(⟨wrap64 ((L : Int) - (b : Int)), shr .i64 lo (b : Int)⟩ : S194)]) else none) else none) = some r ∧ r.length ≤ acc.length + (m + 1) ∧ IvsOk r) : ∀ (j b : Nat), b + j = L → ∃ k r, dyad_Cover.l1 k lo hi (L : Int) acc (b : Int) = some r ∧ r.length ≤ acc.length + (m + 1) ∧ IvsOk r := by
 intro j
 induction j with
 | zero =>
  intro b hb
  obtain ⟨k, r, e, hr⟩ := out b (by omega)
  have c : ¬ ((b : Int) < (L : Int)) := by omega
  exact ⟨k + 1, r, by rw [dyad_Cover.l1, if_neg c]; exact e, hr⟩
 | succ j ihj =>
  intro b hb
  obtain ⟨k, r, e, hr⟩ := out b (by omega)
  obtain ⟨k2, r2, e2, hr2⟩ := ihj (b + 1) (by omega)
  have c : (b : Int) < (L : Int) := by omega
  have e3 : wrap64 ((b : Int) + 1) = ((b + 1 : Nat) : Int) := by rw [w64 (by omega) (by omega)]; rfl
  have c3 : (0 : Int) ≤ ((b + 1 : Nat) : Int) := Int.natCast_nonneg _
  by_cases cA : Go.bits .and .i64 lo (wrap64 (shl .i64 1 (wrap64 ((b : Int) + 1)) - 1)) = 0
  ·
   by_cases cB : wrap64 (wrap64 (lo + shl .i64 1 (wrap64 ((b : Int) + 1))) - 1) ≤ hi
   ·
    refine ⟨k2 + 1, r2, ?_, hr2⟩
    rw [e3] at cA cB
    rw [dyad_Cover.l1, if_pos c, e3, if_pos c3, if_pos cA, if_pos cB]
    exact e2
   ·
    refine ⟨k + 1, r, ?_, hr⟩
    rw [e3] at cA cB
    rw [dyad_Cover.l1, if_pos c, e3, if_pos c3, if_pos cA, if_neg cB]
    exact e
  ·
   refine ⟨k + 1, r, ?_, hr⟩
   rw [e3] at cA
   rw [dyad_Cover.l1, if_pos c, e3, if_pos c3, if_neg cA]
   exact e
theorem cover_l0 (L : Nat) (hL : L ≤ 8) (hi : Int) (hh : hi < 256) : ∀ (m : Nat), CovEnd hi L m := by
 intro m
 induction m with
 | zero =>
  intro lo acc h0 h1 hm ha hx
  have c : ¬ (lo ≤ hi) := by omega
  exact ⟨1, acc, by rw [dyad_Cover.l0, if_neg c], Nat.le_refl _, hx⟩
 | succ m ih =>
  intro lo acc h0 h1 hm ha hx
  by_cases hc : lo ≤ hi
  ·
   obtain ⟨k, r, e, hr⟩ := cov_in hL (fun b hb => cov_out hL hh ih h0 hm ha hx hc b hb) L 0 (Nat.zero_add _)
   exact ⟨k + 1, r, by rw [dyad_Cover.l0, if_pos hc]; exact e, hr⟩
  ·
   exact ⟨1, acc, by rw [dyad_Cover.l0, if_neg hc], Nat.le_add_right _ _, hx⟩
theorem cover_total (L : Nat) (hL : L ≤ 8) (lo hi : Int) : ∃ k r, dyad_Cover.f k lo hi (L : Int) = some r ∧ r.length ≤ 256 ∧ IvsOk r := by
 by_cases h : lo > hi
 ·
  exact ⟨1, [], by rw [dyad_Cover.f, if_pos h]; rfl, Nat.zero_le _, fun x hx => by cases hx⟩
 ·
  by_cases h1 : 0 ≤ lo ∧ lo < 2 ^ L
  ·
   by_cases h2 : 0 ≤ hi ∧ hi < 2 ^ L
   ·
    obtain ⟨p1, p2⟩ := pow8 L hL
    obtain ⟨k, r, e, hr, hx⟩ := cover_l0 L hL hi (by omega) 256 lo [] h1.1 (by omega) (by omega) (by simp) (fun x hx => by cases hx)
    exact ⟨k + 1, r, by rw [dyad_Cover.f, if_neg h, good_total L lo hL, good_total L hi hL, decide_eq_true h1, decide_eq_true h2]; exact e, by simpa using hr, hx⟩
   ·
    exact ⟨1, [], by rw [dyad_Cover.f, if_neg h, good_total L lo hL, good_total L hi hL, decide_eq_true h1, decide_eq_false h2]; rfl, Nat.zero_le _, fun x hx => by cases hx⟩
  ·
   exact ⟨1, [], by rw [dyad_Cover.f, if_neg h, good_total L lo hL, decide_eq_false h1]; rfl, Nat.zero_le _, fun x hx => by cases hx⟩
theorem chain_l0 (L : Nat) (hL : L ≤ 8) (c : Int) (hc : 0 ≤ c) (hc2 : c ≤ 1000) : ∀ (j i : Nat) (acc : List S194), i + j = L + 1 → acc.length = i → IvsOk acc → ∃ k r, dyad_Chain.l0 k c (L : Int) acc (i : Int) = some r ∧ r.length = L + 1 ∧ IvsOk r := by
 intro j
 induction j with
 | zero =>
  intro i acc h1 h2 hx
  exact ⟨1, acc, by rw [dyad_Chain.l0, if_neg (by omega)], by omega, hx⟩
 | succ j ih =>
  intro i acc h1 h2 hx
  obtain ⟨k, r, e, hr, hy⟩ := ih (i + 1) (acc ++ [(⟨(i : Int), shr .i64 c (wrap64 ((L : Int) - (i : Int)))⟩ : S194)]) (by omega) (by simp [h2]) (hx.snoc ⟨by show -9223372036854775808 ≤ (i : Int) ∧ (i : Int) ≤ _; omega, shr_ok c _ hc hc2⟩)
  have e3 : wrap64 ((i : Int) + 1) = ((i + 1 : Nat) : Int) := by rw [w64 (by omega) (by omega)]; omega
  exact ⟨k + 1, r, by rw [dyad_Chain.l0, if_pos (by omega), if_pos (by rw [w64 (by omega) (by omega)]; omega), if_pos (by omega), e3]; exact e, hr, hy⟩
theorem chain_total (L : Nat) (hL : L ≤ 8) (c : Int) : ∃ k r, dyad_Chain.f k c (L : Int) = some r ∧ r.length ≤ 9 ∧ IvsOk r ∧ (0 ≤ c ∧ c < 2 ^ L → 0 < r.length) := by
 by_cases h : 0 ≤ c ∧ c < 2 ^ L
 ·
  obtain ⟨p1, p2⟩ := pow8 L hL
  obtain ⟨k, r, e, hr, hx⟩ := chain_l0 L hL c h.1 (by omega) (L + 1) 0 [] (by omega) rfl (fun x hx => by cases hx)
  exact ⟨k, r, by rw [dyad_Chain.f, good_total L c hL, decide_eq_true h]; exact e, by omega, hx, fun _ => by omega⟩
 ·
  exact ⟨0, [], by rw [dyad_Chain.f, good_total L c hL, decide_eq_false h]; rfl, Nat.zero_le _, (fun x hx => by cases hx), fun h2 => absurd h2 h⟩
theorem nat_l {l : Int} (h0 : 0 ≤ l) (h8 : l ≤ 8) : ∃ L : Nat, l = (L : Int) ∧ L ≤ 8 := by
 obtain ⟨L, rfl⟩ := Int.eq_ofNat_of_zero_le h0
 exact ⟨L, rfl, by omega⟩
theorem cell_c (a : SA) (v : SV) (l : Int) (h0 : 0 ≤ l) (h8 : l ≤ 8) (ha : AtOk a.f1 a.f2 a.f3) : ∃ r : Int, ((a.f1 = 1 → a.f2 ≤ v.f0 ∧ v.f0 ≤ a.f3) → 0 ≤ r ∧ r < 2 ^ l.toNat) ∧ ∀ w, Calls Tryz.prog 96 #[enc95 a, encV v, .int .i64 l] w fun e w' => e = .returned (.int .i64 r) ∧ Below w.heap.size w w' := by
 obtain ⟨L, rfl, hL⟩ := nat_l h0 h8
 obtain ⟨r, e, h⟩ := cell_total a.f0 v.f1 a.f1 a.f2 a.f3 v.f0 L hL ha
 exact ⟨r, by rw [Int.toNat_natCast]; exact h, fun w => dyad_Cell.calls 4 _ _ _ _ _ _ _ r w e⟩
theorem range_c (a : SA) (p : SP) (l : Int) (h0 : 0 ≤ l) (h8 : l ≤ 8) (ha : AtOk a.f1 a.f2 a.f3) (hs : p.f4.size ≤ 1000000) : ∃ r1 r2 : Int, ∀ w, Calls Tryz.prog 87 #[enc95 a, enc46 p, .int .i64 l] w fun e w' => e = .returned (.tuple #[.int .i64 r1, .int .i64 r2]) ∧ Below w.heap.size w w' := by
 obtain ⟨L, rfl, hL⟩ := nat_l h0 h8
 obtain ⟨r1, r2, e⟩ := range_total a.f0 p.f0 p.f4 a.f1 a.f2 a.f3 p.f1 p.f2 p.f3 L hL ha hs
 exact ⟨r1, r2, fun w => dyad_Range.calls 4 _ _ _ _ _ _ _ _ _ _ r1 r2 w e⟩
theorem cover_c (lo hi l : Int) (h0 : 0 ≤ l) (h8 : l ≤ 8) : ∃ r, r.length ≤ 256 ∧ IvsOk r ∧ ∀ w, Calls Tryz.prog 89 #[.int .i64 lo, .int .i64 hi, .int .i64 l] w fun e w' => ∃ v0 : Value, e = .returned v0 ∧ Kd.R k194 194 w' w.heap.size (fun _ => True) v0 r ∧ Below w.heap.size w w' := by
 obtain ⟨L, rfl, hL⟩ := nat_l h0 h8
 obtain ⟨k, r, e, h1, h2⟩ := cover_total L hL lo hi
 exact ⟨r, h1, h2, fun w => dyad_Cover.calls k lo hi _ r w e⟩
theorem chain_c (c l : Int) (h0 : 0 ≤ l) (h8 : l ≤ 8) : ∃ r, r.length ≤ 9 ∧ IvsOk r ∧ (0 ≤ c ∧ c < 2 ^ l.toNat → 0 < r.length) ∧ ∀ w, Calls Tryz.prog 95 #[.int .i64 c, .int .i64 l] w fun e w' => ∃ v0 : Value, e = .returned v0 ∧ Kd.R k194 194 w' w.heap.size (fun _ => True) v0 r ∧ Below w.heap.size w w' := by
 obtain ⟨L, rfl, hL⟩ := nat_l h0 h8
 obtain ⟨k, r, e, h1, h2, h3⟩ := chain_total L hL c
 exact ⟨r, h1, h2, by rw [Int.toNat_natCast]; exact h3, fun w => dyad_Chain.calls k c _ r w e⟩
theorem kind_at {a : SA} (h : kindOk a = true) : AtOk a.f1 a.f2 a.f3 := fun h1 => by
 unfold kindOk at h
 rw [if_pos h1] at h
 simp only [Bool.and_eq_true, Bool.not_eq_true', decide_eq_false_iff_not] at h
 omega
theorem name_le {s : ByteArray} (h : nameOk s = true) : s.size ≤ 12 := by
 unfold nameOk at h
 simp only [Bool.and_eq_true, decide_eq_true_eq] at h
 exact h.2.1
theorem sizeL (s : ByteArray) : s.toList.length = s.size := by rw [ByteArray.toList_eq, Array.length_toList]; rfl
structure POk (S : List SA) (p : SP) : Prop where
 find : 0 ≤ findB p.f0 S
 lt : (findB p.f0 S).toNat < S.length
 name : p.f0.size ≤ 12
 str : p.f4.size ≤ 40
 lo : -2147483648 ≤ p.f2 ∧ p.f2 ≤ 2147483648
 hi : -2147483648 ≤ p.f3 ∧ p.f3 ≤ 2147483648
 at_ : AtOk (S.getD (findB p.f0 S).toNat z30).f1 (S.getD (findB p.f0 S).toNat z30).f2 (S.getD (findB p.f0 S).toNat z30).f3
theorem fok {S : List SA} {F : List SP} (hc : checkBad S = none) (hf : filterBad S F = none) : (1 ≤ F.length ∧ F.length ≤ 4) ∧ ∀ p ∈ F, POk S p := by
 obtain ⟨_, _, hA⟩ := checkBad_none hc
 unfold filterBad at hf
 split at hf
 ·
  cases hf
 ·
  rename_i hl
  refine ⟨by omega, fun p hp => ?_⟩
  obtain ⟨i, hi, rfl⟩ := List.getElem_of_mem hp
  have h := badFrom_none F.length 0 hf i (Nat.zero_le _) (by omega)
  have e : F.getD i z168 = F[i] := by rw [List.getD_eq_getElem?_getD, List.getElem?_eq_getElem hi]; rfl
  unfold okAt at h
  rw [e] at h
  generalize F[i] = p at h
  simp only [Bool.and_eq_true, decide_eq_true_eq] at h
  obtain ⟨⟨h1, _⟩, h3⟩ := h
  obtain ⟨k, hk, hlt, hat⟩ := idxFrom_at (fun x : SA => x.f0.toList == p.f0.toList) z30 S 0 h1
  have hk' : findB p.f0 S = (k : Int) := by
   have : findB p.f0 S = ((0 + k : Nat) : Int) := hk
   omega
  rw [hk', Int.toNat_natCast] at h3
  have hm : S.getD k z30 ∈ S := by
   rw [List.getD_eq_getElem?_getD, List.getElem?_eq_getElem hlt]
   exact List.getElem_mem _
  obtain ⟨hn, hkd⟩ := hA _ hm
  have hname : p.f0.size ≤ 12 := by
   have e1 : (S.getD k z30).f0.toList = p.f0.toList := by simpa using hat
   have e2 := name_le hn
   rw [← sizeL, e1, sizeL] at e2
   exact e2
  refine ⟨h1, by rw [hk']; simpa using hlt, hname, ?_, ?_, ?_, by rw [hk', Int.toNat_natCast]; exact kind_at hkd⟩
  all_goals
   unfold predOk at h3
   split at h3
   ·
    simp only [Bool.and_eq_true, decide_eq_true_eq, beq_iff_eq] at h3
    have := kind_at hkd h3.1.1.1.1
    first
     | omega
     | (have e2 := sizeL p.f4; rw [h3.2] at e2; simp at e2; omega)
   ·
    split at h3
    ·
     simp only [Bool.and_eq_true, decide_eq_true_eq, beq_iff_eq] at h3
     have h4 := h3.2
     unfold strOk at h4
     simp only [Bool.and_eq_true, decide_eq_true_eq] at h4
     omega
    ·
     cases h3
end Go.Proofs.YtnmpijbcajclgaaGreatDoor.Mine
end
section
namespace Go.Proofs.YtnmpijbcajclgaaGreatDoor.Mine
open Go.Maps Go.RowKit YtnmpijbcajclgaaGreatDoorW.PrintWords YtnmpijbcajclgaaGreatDoorW.PrintLast YtnmpijbcajclgaaGreatDoorW.PrintMore
open PNodeAlone
def NdM.new (a l : Int) (S : List SA) : NdM := ⟨a, l, S, [], 0, none, [], [], 0, [], 0, 0⟩
set_option maxHeartbeats 4000000 in
theorem new_nd (A : Option Addr) (n c : Nat) (S : List SA) (a l : Int) (b : Nat) (ok : Nat → Prop) (w : World) (ha : 0 ≤ a ∧ a < 32) (h0 : 0 ≤ l ∧ l ≤ 8) (hr : Kd.R kAt tA w b ok (.slice A n c) S) (hb : b ≤ w.heap.size) (hck : checkBad S = none) :
 Calls Tryz.prog 10 #[.int .i64 a, .slice A n c, .int .i64 l] w fun e w' => ∃ g h, e = .returned (.tuple #[.pointer (some ⟨g, 0, none⟩), .nilIface]) ∧ w.heap.size ≤ g ∧ IsNd w.heap.size w' g h (NdM.new a l S) ∧ Below w.heap.size w w' := by
 obtain ⟨hn, hnc, hC⟩ := Kd.R_reads' hr
 subst hn
 have hl := (checkBad_none hck).2.1
 have HC := mk0 ((check_calls A S.length c S w rfl hC (by omega) hnc).mono (fun e w' hq => CheckPost.ok hq hck))
 have b1 : decide (a < 0) = false := decide_eq_false (by omega)
 have b2 : decide (32 ≤ a) = false := decide_eq_false (by omega)
 have b3 : decide (l < 0) = false := decide_eq_false (by omega)
 have b4 : decide (8 < l) = false := decide_eq_false (by omega)
 have HR := mk0 hr
 have HL := mk0 (show S.length ≤ 1000000 by omega)
 obtain ⟨n, hn⟩ : ∃ n, n = S.length := ⟨_, rfl⟩
 rw [← hn] at HR HC HL ⊢
 clear hr hn hnc hC hl hck ha h0
 go_enter Tryz.func10, Tryz.ntmps10
 go_wp2_with fail
 refine HC.out.mono ?_
 rintro e w1 ⟨rfl, hb1⟩
 have HB := mk0 hb1
 have HR1 := mk0 (Kd.R_lower (Kd.R_below HR.out hb1) (Nat.zero_le _))
 clear HC HR hb1 hb
 go_wp2_with fail
 refine (clA.row (base := 0) (Nat.zero_le _) HR1.out HL.out (by decide)).mono ?_
 rintro e w2 ⟨A2, c2, rfl, hR2, hge, hb2⟩
 have hS := R_raiseA hR2 (b' := w.heap.size) (fun k hk => Nat.le_trans HB.out.size (hge k hk))
 have n0_ := mk0 (below_then HB.out HB.out.size hb2)
 have n1_ := mk0 hS
 clear HB HR1 hR2 hge hb2 hS
 have HB := n0_
 have HS := n1_
 clear n0_ n1_
 have hmm := @run_makeMap Tryz.prog
 have hs1 : (w2.alloc (Obj.map #[] 0)).heap.size = w2.heap.size + 1 := by show (w2.heap.push _).size = _; exact Array.size_push _
 have hbm := below_alloc (Below.refl w2.heap.size w2) (Obj.map #[] 0)
 have hmi := MapIs.made (P := Tryz.prog) (k := 3) (kv := kI) w2
 have hm0 : (w2.alloc (Obj.map #[] 0)).heap[w2.heap.size]? = some (Obj.map #[] 0) := heap_alloc_new w2 _
 go_wp2
 go_ret2
 have hsz := HB.out.size
 obtain ⟨W, hW⟩ : ∃ W, W = w2.alloc (Obj.map #[] 0) := ⟨_, rfl⟩
 rw [← hW] at hbm hmi hm0 hs1 ⊢
 generalize hcs : Obj.cells _ _ = o
 have hbn := below_alloc (Below.refl W.heap.size W) o
 have hnew := heap_alloc_new W o
 rw [hs1] at hnew
 have hbw := below_then hbm hbm.size hbn
 have hsw := hbm.size
 refine ⟨w2.heap.size + 1, ⟨.slice A2 n c2, .slice none 0 0, .map none, .slice none 0 0, .slice none 0 0, w2.heap.size, .slice none 0 0⟩, rfl, by omega, ⟨by rw [hnew, ← hcs]; rfl, by omega, ⟨Kd.R_below HS.out hbw, Kd.R_nil _ _ _ _ _, ⟨fun _ => rfl, fun q hq => by cases hq⟩, Kd.R_nil _ _ _ _ _, Kd.R_nil _ _ _ _ _, ⟨hmi.below hbn, hsz, fun e => by cases e⟩, Kd.R_nil _ _ _ _ _⟩⟩, below_then HB.out HB.out.size hbw⟩
end Go.Proofs.YtnmpijbcajclgaaGreatDoor.Mine
end
section
namespace Go.Proofs.YtnmpijbcajclgaaGreatDoor.Mine
open Go.RowKit YtnmpijbcajclgaaGreatDoorW.PrintWords YtnmpijbcajclgaaGreatDoorW.PrintLast YtnmpijbcajclgaaGreatDoorW.PrintMore
open PNodeAlone
def quoteL (l : List UInt8) : List UInt8 := l.flatMap fun c => if c = 34 ∨ c = 92 then [92, c] else [c]
theorem quoteL_len (l : List UInt8) : (quoteL l).length ≤ 2 * l.length := by
 induction l with
 | nil => simp [quoteL]
 | cons c r ih =>
  have : quoteL (c :: r) = (if c = 34 ∨ c = 92 then [92, c] else [c]) ++ quoteL r := rfl
  rw [this, List.length_append, List.length_cons]
  by_cases h : c = 34 ∨ c = 92
  ·
   rw [if_pos h]; simp only [List.length_cons, List.length_nil]; omega
  ·
   rw [if_neg h]; simp only [List.length_cons, List.length_nil]; omega
theorem quoteL_snoc (l : List UInt8) (c : UInt8) : quoteL (l ++ [c]) = quoteL l ++ (if c = 34 ∨ c = 92 then [92, c] else [c]) := by
 unfold quoteL
 rw [List.flatMap_append]
 simp only [List.flatMap_cons, List.flatMap_nil, List.append_nil]
set_option maxHeartbeats 4000000 in
theorem quote_calls (s : ByteArray) (w : World) (hs : s.size ≤ 1000000000) : Calls Tryz.prog 92 #[.string s] w fun e w' => e = .returned (.string ⟨(34 :: quoteL s.data.toList ++ [34]).toArray⟩) ∧ Below w.heap.size w w' := by
 have hcv := fun W : World => Lib.run_convert_string_bytes (P := Tryz.prog) W 9 263 5 s Tryz.underlying9 Tryz.underlying263 Tryz.underlying5
 go_enter Tryz.func92, Tryz.ntmps92
 go_wp2_with fail
 have hR0 : Kd.R (Kd.int .u8) 5 (w.alloc (.cells #[.int .u8 34] 5)) w.heap.size (fun k => k ≠ w.heap.size + 1) (.slice (some ⟨w.heap.size, 0, none⟩) 1 1) (numsB [34]) :=
  ⟨fun k hk => by
   have : w.heap.size = k := by simpa [Value.ownBlock] using hk
   omega, [.int .u8 34], World.ownsRow_lit w #[.int .u8 34] 1 (Nat.le_refl _) (by decide) rfl, Reps.one rfl (Reps.none _ _)⟩
 have hsz : (w.alloc (.cells #[.int .u8 34] 5)).heap.size = w.heap.size + 1 := by show (w.heap.push _).size = _; exact Array.size_push _
 have HO := mk0 (Kd.R_below hR0 (bytes_below (Below.refl _ _) (Nat.le_refl _) 5 s))
 have HB := mk0 (bytes_below (below_alloc (Below.refl w.heap.size w) (.cells #[.int .u8 34] 5)) (by rw [hsz]; omega) 5 s)
 have HC : Aside0 (∀ j, j < s.size → (Lib.bytesWorld (w.alloc (Obj.cells #[Value.int IntKind.u8 34] 5)) 5 s).cell? ⟨w.heap.size + 1, j, none⟩ = some (.int .u8 (s.data.toList.getD j 0).toNat)) := ⟨fun j hj => by
  have := Lib.bytesWorld_cell (w.alloc (Obj.cells #[Value.int IntKind.u8 34] 5)) 5 s j hj
  rwa [hsz] at this⟩
 have HL : Aside0 (w.heap.size + 1 < (Lib.bytesWorld (w.alloc (Obj.cells #[Value.int IntKind.u8 34] 5)) 5 s).heap.size) := ⟨by rw [Lib.bytesWorld_size, hsz]; omega⟩
 generalize grownCap (w.alloc (Obj.cells #[Value.int IntKind.u8 34] 5)) s.size 0 5 = cp
 generalize Value.slice (some { block := w.heap.size, off := 0 }) 1 1 = v0 at HO ⊢
 generalize Lib.bytesWorld (w.alloc (Obj.cells #[Value.int IntKind.u8 34] 5)) 5 s = w1 at HO HB HC HL ⊢
 generalize hgB : w.heap.size + 1 = gB at HO HC HL ⊢
 clear hR0 hsz hgB
 go_loopg [3, 5, 10] (s.size + 1) (fun k v3 v5 v10 W => ∃ (i : Nat) (acc : List UInt8), Aside0 (i ≤ s.size ∧ k + i = s.size + 1 ∧ acc = 34 :: quoteL (s.data.toList.take i) ∧ acc.length ≤ 1 + 2 * i) ∧ v10 = .int .i64 i ∧ Aside0 (Kd.R (Kd.int .u8) 5 W w.heap.size (fun k => k ≠ gB) v3 (numsB acc)) ∧ Aside0 (Below w.heap.size w W) ∧ Aside0 (∀ j, j < s.size → W.cell? ⟨gB, j, none⟩ = some (.int .u8 (s.data.toList.getD j 0).toNat)) ∧ Aside0 (gB < W.heap.size))
 case atStart => exact ⟨0, [34], ⟨by omega, by omega, by simp [quoteL], by simp⟩, rfl, HO, HB, HC, HL⟩
 case round =>
  clear HO HB HC HL
  obtain ⟨i, acc, HN, rfl, HO, HB, HC, HL⟩ := hrel
  by_cases hi : i < s.size
  ·
   have b1 : decide ((i : Int) < (s.size : Int)) = true := decide_eq_true (by omega)
   have hc := HC.out i hi
   have hd : s.data.toList.getD i 0 = s[i]'hi := by
    rw [List.getD_eq_getElem?_getD, List.getElem?_eq_getElem (by simpa using hi)]
    rfl
   rw [hd] at hc
   have htk : quoteL (s.data.toList.take (i + 1)) = quoteL (s.data.toList.take i) ++ (if s[i]'hi = 34 ∨ s[i]'hi = 92 then [92, s[i]'hi] else [s[i]'hi]) := by
    rw [List.take_succ_eq_append_getElem (by simpa using hi), quoteL_snoc]
    rfl
   have HT := mk0 htk
   clear htk hd
   generalize s[i]'hi = c at hc HT
   have p1 : (0 : Int) ≤ (i : Int) := by omega
   have p2 : (i : Int) < (s.size : Int) := by omega
   have e1 : ((c.toNat : Int) == (34 : Int)) = decide (c = 34) := c_eq (n := 34) (by decide)
   have e2 : ((c.toNat : Int) == (92 : Int)) = decide (c = 92) := c_eq (n := 92) (by decide)
   by_cases h34 : c = 34
   ·
    subst h34
    rw [decide_eq_true rfl] at e1
    go_wp2_with (first | ((with_reducible refine gate_builtin (b := .append) (xs := #[.tmp 20, .tmp 21]) rfl ?_); at_builtin; go_loud (refine Kd.R_append (Kd.int .u8) (w0 := w) w.heap.size rfl (.tmp 20) (.tmp 21) 263 5 (.int .u8 0) 1 rfl Tryz.underlying263 info5 rfl (by decide) (by omega) _ (numsB _) (((92 : UInt8)).toNat : Int) [.int .u8 92] (fun k => k ≠ gB) (fun _ => False) rfl ?aX ?aP (fun _ hk => hk.elim) ?aF HO.out HB.out HB.out.size ?aL ?_; (case aX => first | rfl | (go_simp; done) | (go_simp; rfl)); (case aP => exact rfl); (case aF => exact (fun k hk => by have := HL.out; omega)); (case aL => have := HN.out; simp [numsB]; omega); intro v9 w9 ho hb hg hat; rw [← numsB_snoc] at ho; have n0_ := mk0 ho; have n1_ := mk0 hb; have n2_ := mk0 (fun j hj => (cell_grown hg (HC.out j hj) (fun e => HO.out.1 _ e.symm rfl))); have n3_ := mk0 (Nat.lt_of_lt_of_le HL.out hg.size); clear HO HB HC HL ho hb hg hat; have HO := n0_; have HB := n1_; have HC := n2_; have HL := n3_; clear n0_ n1_ n2_ n3_)) | ((with_reducible refine gate_builtin (b := .append) (xs := #[.tmp 23, .tmp 25]) rfl ?_); at_builtin; go_loud (refine Kd.R_append (Kd.int .u8) (w0 := w) w.heap.size rfl (.tmp 23) (.tmp 25) 263 5 (.int .u8 0) 1 rfl Tryz.underlying263 info5 rfl (by decide) (by omega) _ (numsB _) (((34 : UInt8)).toNat : Int) [.int .u8 34] (fun k => k ≠ gB) (fun _ => False) rfl ?aX ?aP (fun _ hk => hk.elim) ?aF HO.out HB.out HB.out.size ?aL ?_; (case aX => first | rfl | (go_simp; done) | (go_simp; rfl)); (case aP => exact rfl); (case aF => exact (fun k hk => by have := HL.out; omega)); (case aL => have := HN.out; simp [numsB]; omega); intro v9 w9 ho hb hg hat; rw [← numsB_snoc] at ho; have n0_ := mk0 ho; have n1_ := mk0 hb; have n2_ := mk0 (fun j hj => (cell_grown hg (HC.out j hj) (fun e => HO.out.1 _ e.symm rfl))); have n3_ := mk0 (Nat.lt_of_lt_of_le HL.out hg.size); clear HO HB HC HL ho hb hg hat; have HO := n0_; have HB := n1_; have HC := n2_; have HL := n3_; clear n0_ n1_ n2_ n3_)))
    go_roundg (gk - 1)
    case measure => have := HN.out; omega
    case rel => exact ⟨i + 1, acc ++ [92] ++ [34], ⟨by have := HN.out; omega, by have := HN.out; omega, by rw [HT.out, HN.out.2.2.1]; simp [*], by have := HN.out; simp only [List.length_append, List.length_cons, List.length_nil]; omega⟩, rfl, HO, HB, HC, HL⟩
   ·
    by_cases h92 : c = 92
    ·
     subst h92
     rw [decide_eq_false h34] at e1
     rw [decide_eq_true rfl] at e2
     go_wp2_with (first | ((with_reducible refine gate_builtin (b := .append) (xs := #[.tmp 20, .tmp 21]) rfl ?_); at_builtin; go_loud (refine Kd.R_append (Kd.int .u8) (w0 := w) w.heap.size rfl (.tmp 20) (.tmp 21) 263 5 (.int .u8 0) 1 rfl Tryz.underlying263 info5 rfl (by decide) (by omega) _ (numsB _) (((92 : UInt8)).toNat : Int) [.int .u8 92] (fun k => k ≠ gB) (fun _ => False) rfl ?aX ?aP (fun _ hk => hk.elim) ?aF HO.out HB.out HB.out.size ?aL ?_; (case aX => first | rfl | (go_simp; done) | (go_simp; rfl)); (case aP => exact rfl); (case aF => exact (fun k hk => by have := HL.out; omega)); (case aL => have := HN.out; simp [numsB]; omega); intro v9 w9 ho hb hg hat; rw [← numsB_snoc] at ho; have n0_ := mk0 ho; have n1_ := mk0 hb; have n2_ := mk0 (fun j hj => (cell_grown hg (HC.out j hj) (fun e => HO.out.1 _ e.symm rfl))); have n3_ := mk0 (Nat.lt_of_lt_of_le HL.out hg.size); clear HO HB HC HL ho hb hg hat; have HO := n0_; have HB := n1_; have HC := n2_; have HL := n3_; clear n0_ n1_ n2_ n3_)) | ((with_reducible refine gate_builtin (b := .append) (xs := #[.tmp 23, .tmp 25]) rfl ?_); at_builtin; go_loud (refine Kd.R_append (Kd.int .u8) (w0 := w) w.heap.size rfl (.tmp 23) (.tmp 25) 263 5 (.int .u8 0) 1 rfl Tryz.underlying263 info5 rfl (by decide) (by omega) _ (numsB _) (((92 : UInt8)).toNat : Int) [.int .u8 92] (fun k => k ≠ gB) (fun _ => False) rfl ?aX ?aP (fun _ hk => hk.elim) ?aF HO.out HB.out HB.out.size ?aL ?_; (case aX => first | rfl | (go_simp; done) | (go_simp; rfl)); (case aP => exact rfl); (case aF => exact (fun k hk => by have := HL.out; omega)); (case aL => have := HN.out; simp [numsB]; omega); intro v9 w9 ho hb hg hat; rw [← numsB_snoc] at ho; have n0_ := mk0 ho; have n1_ := mk0 hb; have n2_ := mk0 (fun j hj => (cell_grown hg (HC.out j hj) (fun e => HO.out.1 _ e.symm rfl))); have n3_ := mk0 (Nat.lt_of_lt_of_le HL.out hg.size); clear HO HB HC HL ho hb hg hat; have HO := n0_; have HB := n1_; have HC := n2_; have HL := n3_; clear n0_ n1_ n2_ n3_)))
     go_roundg (gk - 1)
     case measure => have := HN.out; omega
     case rel => exact ⟨i + 1, acc ++ [92] ++ [92], ⟨by have := HN.out; omega, by have := HN.out; omega, by rw [HT.out, HN.out.2.2.1]; simp [*], by have := HN.out; simp only [List.length_append, List.length_cons, List.length_nil]; omega⟩, rfl, HO, HB, HC, HL⟩
    ·
     rw [decide_eq_false h34] at e1
     rw [decide_eq_false h92] at e2
     go_wp2_with (first | ((with_reducible refine gate_builtin (b := .append) (xs := #[.tmp 23, .tmp 25]) rfl ?_); at_builtin; go_loud (refine Kd.R_append (Kd.int .u8) (w0 := w) w.heap.size rfl (.tmp 23) (.tmp 25) 263 5 (.int .u8 0) 1 rfl Tryz.underlying263 info5 rfl (by decide) (by omega) _ (numsB _) ((c).toNat : Int) [.int .u8 (c.toNat : Int)] (fun k => k ≠ gB) (fun _ => False) rfl ?aX ?aP (fun _ hk => hk.elim) ?aF HO.out HB.out HB.out.size ?aL ?_; (case aX => first | rfl | (go_simp; done) | (go_simp; rfl)); (case aP => exact rfl); (case aF => exact (fun k hk => by have := HL.out; omega)); (case aL => have := HN.out; simp [numsB]; omega); intro v9 w9 ho hb hg hat; rw [← numsB_snoc] at ho; have n0_ := mk0 ho; have n1_ := mk0 hb; have n2_ := mk0 (fun j hj => (cell_grown hg (HC.out j hj) (fun e => HO.out.1 _ e.symm rfl))); have n3_ := mk0 (Nat.lt_of_lt_of_le HL.out hg.size); clear HO HB HC HL ho hb hg hat; have HO := n0_; have HB := n1_; have HC := n2_; have HL := n3_; clear n0_ n1_ n2_ n3_)))
     go_roundg (gk - 1)
     case measure => have := HN.out; omega
     case rel => exact ⟨i + 1, acc ++ [c], ⟨by have := HN.out; omega, by have := HN.out; omega, by rw [HT.out, HN.out.2.2.1]; simp [*], by have := HN.out; simp only [List.length_append, List.length_cons, List.length_nil]; omega⟩, rfl, HO, HB, HC, HL⟩
  ·
   have b1 : decide ((i : Int) < (s.size : Int)) = false := decide_eq_false (by omega)
   have hi2 : i = s.size := by have := HN.out; omega
   go_wp2_with (((with_reducible refine gate_builtin (b := .append) (xs := #[.tmp 28, .tmp 29]) rfl ?_); at_builtin; go_loud (refine Kd.R_append (Kd.int .u8) (w0 := w) w.heap.size rfl (.tmp 28) (.tmp 29) 263 5 (.int .u8 0) 1 rfl Tryz.underlying263 info5 rfl (by decide) (by omega) _ (numsB _) (((34 : UInt8)).toNat : Int) [.int .u8 34] (fun k => k ≠ gB) (fun _ => False) rfl ?aX ?aP (fun _ hk => hk.elim) ?aF HO.out HB.out HB.out.size ?aL ?_; (case aX => first | rfl | (go_simp; done) | (go_simp; rfl)); (case aP => exact rfl); (case aF => exact (fun k hk => by have := HL.out; omega)); (case aL => have := HN.out; simp [numsB]; omega); intro v9 w9 ho hb hg hat; rw [← numsB_snoc] at ho; have n0_ := mk0 ho; have n1_ := mk0 hb; have n2_ := mk0 (fun j hj => (cell_grown hg (HC.out j hj) (fun e => HO.out.1 _ e.symm rfl))); have n3_ := mk0 (Nat.lt_of_lt_of_le HL.out hg.size); clear HO HB HC HL ho hb hg hat; have HO := n0_; have HB := n1_; have HC := n2_; have HL := n3_; clear n0_ n1_ n2_ n3_)); have hs2 := own_string (P := Tryz.prog) Tryz.underlying263 Tryz.underlying5 Tryz.underlying9 (Kd.own_of_R HO.out); rw [str_numsB] at hs2)
   go_ret
   refine ⟨?_, HB.out⟩
   have ha : acc = 34 :: quoteL s.data.toList := by rw [HN.out.2.2.1, hi2, List.take_of_length_le (by simp)]
   rw [ha]
   rfl
end Go.Proofs.YtnmpijbcajclgaaGreatDoor.Mine
end
