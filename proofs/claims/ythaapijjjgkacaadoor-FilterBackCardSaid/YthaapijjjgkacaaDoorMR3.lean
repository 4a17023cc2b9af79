/-
  Texts of this claim, one behind the other: what each one proves, and its conditions, stand at its head.
-/
import Derived.Test.YthaapijjjgkacaaDoorMR2
set_option linter.unusedSimpArgs false
set_option linter.unusedVariables false
section
-- PRINTED BY print.sh 35421559b90ae4d0a3588c463048766b98c2df88dd9212a6774a882060cdf62d: not written by this session
namespace Go.Proofs.YthaapijjjgkacaaDoor.PFilterReads
open Go.RowKit Go.Proofs.YthaapijjjgkacaaDoorW.PrintWords Go.Proofs.YthaapijjjgkacaaDoorW.PrintLast Go.Proofs.YthaapijjjgkacaaDoorW.PrintMore
attribute [local go_sem] max2_int min2_int max_two min_two max_three min_three max_four min_four   -- for this text's walks alone

/-! ### filter_parser_number: function 64 -/
mutual
def filter_parser_number.j0 : Nat → Int → Int → Int → Bool → ByteArray → Int → Int → Option (Int × ByteArray × Int × Int)
  | 0, _, _, _, _, _, _, _ => none
  | k + 1, x3, x4, x5, x39, x1000, x1001, x1002 => if x39 = true then (filter_parser_number.j1 k x3 (-1) x5 x1000 (wrap64 (x1001 + 1)) x1002) else (filter_parser_number.j1 k x3 x4 x5 x1000 x1001 x1002)
def filter_parser_number.j1 : Nat → Int → Int → Int → ByteArray → Int → Int → Option (Int × ByteArray × Int × Int)
  | 0, _, _, _, _, _, _ => none
  | k + 1, x3, x4, x5, x1000, x1001, x1002 => filter_parser_number.l0 k x3 x4 x5 x1001 x1000 x1001 x1002
def filter_parser_number.l0 : Nat → Int → Int → Int → Int → ByteArray → Int → Int → Option (Int × ByteArray × Int × Int)
  | 0, _, _, _, _, _, _, _ => none
  | k + 1, x3, x4, x5, x6, x1000, x1001, x1002 => if x1001 < (x1000.size : Int) then (if 0 ≤ x1001 then ((filter_digit.f (bt x1000 x1001)).bind fun t154 => (filter_parser_number.j3 k x3 x4 x5 x6 t154 x1000 x1001 x1002)) else (none)) else (filter_parser_number.j3 k x3 x4 x5 x6 false x1000 x1001 x1002)
def filter_parser_number.j3 : Nat → Int → Int → Int → Int → Bool → ByteArray → Int → Int → Option (Int × ByteArray × Int × Int)
  | 0, _, _, _, _, _, _, _, _ => none
  | k + 1, x3, x4, x5, x6, x72, x1000, x1001, x1002 => if x72 = true then (if (wrap64 (x1001 - x6)) ≥ 10 then ((filter_parser_stop.f x1000 x1001 x1002 x3).bind fun bt155 => (some (0, bt155.1, bt155.2.1, bt155.2.2))) else (if 0 ≤ x1001 then (if x1001 < (x1000.size : Int) then (filter_parser_number.l0 k x3 x4 (wrap64 ((wrap64 (10 * x5)) + (((bt x1000 x1001) - 48) % 256))) x6 x1000 (wrap64 (x1001 + 1)) x1002) else (none)) else (none))) else (if x1001 = x6 then ((filter_parser_stop.f x1000 x1001 x1002 x3).bind fun bt158 => (some (wrap64 (x4 * x5), bt158.1, bt158.2.1, bt158.2.2))) else (if (wrap64 (x1001 - x6)) > 1 then (if 0 ≤ x6 then (if x6 < (x1000.size : Int) then (if (bt x1000 x6) = 48 then ((filter_parser_stop.f x1000 x1001 x1002 x3).bind fun bt161 => (some (wrap64 (x4 * x5), bt161.1, bt161.2.1, bt161.2.2))) else (if x4 < 0 then (if x5 = 0 then ((filter_parser_stop.f x1000 x1001 x1002 x3).bind fun bt164 => (some (wrap64 (x4 * x5), bt164.1, bt164.2.1, bt164.2.2))) else (some (wrap64 (x4 * x5), x1000, x1001, x1002))) else (some (wrap64 (x4 * x5), x1000, x1001, x1002)))) else (none)) else (none)) else (if x4 < 0 then (if x5 = 0 then ((filter_parser_stop.f x1000 x1001 x1002 x3).bind fun bt167 => (some (wrap64 (x4 * x5), bt167.1, bt167.2.1, bt167.2.2))) else (some (wrap64 (x4 * x5), x1000, x1001, x1002))) else (some (wrap64 (x4 * x5), x1000, x1001, x1002)))))
end
def filter_parser_number.f (k : Nat) (s0_0 : ByteArray) (s0_1 : Int) (s0_2 : Int) : Option (Int × ByteArray × Int × Int) := (filter_parser_blanks.f k s0_0 s0_1 s0_2).bind fun bt151 => (if bt151.2.2 ≥ 0 then (some (0, bt151.1, bt151.2.1, bt151.2.2)) else (if bt151.2.1 < (bt151.1.size : Int) then (if 0 ≤ bt151.2.1 then (filter_parser_number.j0 k bt151.2.1 1 0 ((bt bt151.1 bt151.2.1) == 45) bt151.1 bt151.2.1 bt151.2.2) else (none)) else (filter_parser_number.j0 k bt151.2.1 1 0 false bt151.1 bt151.2.1 bt151.2.2)))
theorem filter_parser_number.mono_l : ∀ k, (∀ y0 y1 y2 y3 y4 y5 y6, LeO (filter_parser_number.j0 k y0 y1 y2 y3 y4 y5 y6) (filter_parser_number.j0 (k + 1) y0 y1 y2 y3 y4 y5 y6)) ∧ (∀ y0 y1 y2 y3 y4 y5, LeO (filter_parser_number.j1 k y0 y1 y2 y3 y4 y5) (filter_parser_number.j1 (k + 1) y0 y1 y2 y3 y4 y5)) ∧ (∀ y0 y1 y2 y3 y4 y5 y6, LeO (filter_parser_number.l0 k y0 y1 y2 y3 y4 y5 y6) (filter_parser_number.l0 (k + 1) y0 y1 y2 y3 y4 y5 y6)) ∧ (∀ y0 y1 y2 y3 y4 y5 y6 y7, LeO (filter_parser_number.j3 k y0 y1 y2 y3 y4 y5 y6 y7) (filter_parser_number.j3 (k + 1) y0 y1 y2 y3 y4 y5 y6 y7))
  | 0 => ⟨fun _ _ _ _ _ _ _ r h => by simp [filter_parser_number.j0] at h, fun _ _ _ _ _ _ r h => by simp [filter_parser_number.j1] at h, fun _ _ _ _ _ _ _ r h => by simp [filter_parser_number.l0] at h, fun _ _ _ _ _ _ _ _ r h => by simp [filter_parser_number.j3] at h⟩
  | k + 1 => by
    obtain ⟨ih0, ih1, ih2, ih3⟩ := filter_parser_number.mono_l k
    refine ⟨?_, ?_, ?_, ?_⟩
    · intro y0 y1 y2 y3 y4 y5 y6
      unfold filter_parser_number.j0
      repeat' first
      | (with_reducible exact ih0 _ _ _ _ _ _ _)
      | (with_reducible exact ih1 _ _ _ _ _ _)
      | (with_reducible exact ih2 _ _ _ _ _ _ _)
      | (with_reducible exact ih3 _ _ _ _ _ _ _ _)
      | (with_reducible exact filter_parser_blanks.mono _ _ _ _)
      | (with_reducible exact LeO.refl _)
      | (with_reducible exact LeO.none _)
      | (with_reducible refine LeO.ite ?_ ?_)
      | (with_reducible refine LeO.bind ?_ (fun _ => ?_))
      | exact ih0 _ _ _ _ _ _ _
      | exact ih1 _ _ _ _ _ _
      | exact ih2 _ _ _ _ _ _ _
      | exact ih3 _ _ _ _ _ _ _ _
      | exact filter_parser_blanks.mono _ _ _ _
      | exact LeO.none _
      | refine LeO.ite ?_ ?_
      | refine LeO.bind ?_ (fun _ => ?_)
    · intro y0 y1 y2 y3 y4 y5
      unfold filter_parser_number.j1
      repeat' first
      | (with_reducible exact ih0 _ _ _ _ _ _ _)
      | (with_reducible exact ih1 _ _ _ _ _ _)
      | (with_reducible exact ih2 _ _ _ _ _ _ _)
      | (with_reducible exact ih3 _ _ _ _ _ _ _ _)
      | (with_reducible exact filter_parser_blanks.mono _ _ _ _)
      | (with_reducible exact LeO.refl _)
      | (with_reducible exact LeO.none _)
      | (with_reducible refine LeO.ite ?_ ?_)
      | (with_reducible refine LeO.bind ?_ (fun _ => ?_))
      | exact ih0 _ _ _ _ _ _ _
      | exact ih1 _ _ _ _ _ _
      | exact ih2 _ _ _ _ _ _ _
      | exact ih3 _ _ _ _ _ _ _ _
      | exact filter_parser_blanks.mono _ _ _ _
      | exact LeO.none _
      | refine LeO.ite ?_ ?_
      | refine LeO.bind ?_ (fun _ => ?_)
    · intro y0 y1 y2 y3 y4 y5 y6
      unfold filter_parser_number.l0
      repeat' first
      | (with_reducible exact ih0 _ _ _ _ _ _ _)
      | (with_reducible exact ih1 _ _ _ _ _ _)
      | (with_reducible exact ih2 _ _ _ _ _ _ _)
      | (with_reducible exact ih3 _ _ _ _ _ _ _ _)
      | (with_reducible exact filter_parser_blanks.mono _ _ _ _)
      | (with_reducible exact LeO.refl _)
      | (with_reducible exact LeO.none _)
      | (with_reducible refine LeO.ite ?_ ?_)
      | (with_reducible refine LeO.bind ?_ (fun _ => ?_))
      | exact ih0 _ _ _ _ _ _ _
      | exact ih1 _ _ _ _ _ _
      | exact ih2 _ _ _ _ _ _ _
      | exact ih3 _ _ _ _ _ _ _ _
      | exact filter_parser_blanks.mono _ _ _ _
      | exact LeO.none _
      | refine LeO.ite ?_ ?_
      | refine LeO.bind ?_ (fun _ => ?_)
    · intro y0 y1 y2 y3 y4 y5 y6 y7
      unfold filter_parser_number.j3
      repeat' first
      | (with_reducible exact ih0 _ _ _ _ _ _ _)
      | (with_reducible exact ih1 _ _ _ _ _ _)
      | (with_reducible exact ih2 _ _ _ _ _ _ _)
      | (with_reducible exact ih3 _ _ _ _ _ _ _ _)
      | (with_reducible exact filter_parser_blanks.mono _ _ _ _)
      | (with_reducible exact LeO.refl _)
      | (with_reducible exact LeO.none _)
      | (with_reducible refine LeO.ite ?_ ?_)
      | (with_reducible refine LeO.bind ?_ (fun _ => ?_))
      | exact ih0 _ _ _ _ _ _ _
      | exact ih1 _ _ _ _ _ _
      | exact ih2 _ _ _ _ _ _ _
      | exact ih3 _ _ _ _ _ _ _ _
      | exact filter_parser_blanks.mono _ _ _ _
      | exact LeO.none _
      | refine LeO.ite ?_ ?_
      | refine LeO.bind ?_ (fun _ => ?_)
theorem filter_parser_number.mono : ∀ a0 a1 a2 k, LeO (filter_parser_number.f k a0 a1 a2) (filter_parser_number.f (k + 1) a0 a1 a2) := by
  intro a0 a1 a2 k
  obtain ⟨ih0, ih1, ih2, ih3⟩ := filter_parser_number.mono_l k
  unfold filter_parser_number.f
  repeat' first
      | (with_reducible exact ih0 _ _ _ _ _ _ _)
      | (with_reducible exact ih1 _ _ _ _ _ _)
      | (with_reducible exact ih2 _ _ _ _ _ _ _)
      | (with_reducible exact ih3 _ _ _ _ _ _ _ _)
      | (with_reducible exact filter_parser_blanks.mono _ _ _ _)
      | (with_reducible exact LeO.refl _)
      | (with_reducible exact LeO.none _)
      | (with_reducible refine LeO.ite ?_ ?_)
      | (with_reducible refine LeO.bind ?_ (fun _ => ?_))
      | exact ih0 _ _ _ _ _ _ _
      | exact ih1 _ _ _ _ _ _
      | exact ih2 _ _ _ _ _ _ _
      | exact ih3 _ _ _ _ _ _ _ _
      | exact filter_parser_blanks.mono _ _ _ _
      | exact LeO.none _
      | refine LeO.ite ?_ ?_
      | refine LeO.bind ?_ (fun _ => ?_)
set_option maxHeartbeats 8000000 in
set_option maxRecDepth 100000 in
theorem filter_parser_number.calls (k : Nat) (g : Nat) (s0_0 : ByteArray) (s0_1 : Int) (s0_2 : Int) (r1 : Int) (r2 : ByteArray) (r3 : Int) (r4 : Int) (w0 w : World) (hI : IsS74 w0 w g s0_0 s0_1 s0_2) (hB : Below w0.heap.size w0 w) (h : filter_parser_number.f k s0_0 s0_1 s0_2 = some (r1, r2, r3, r4)) :
    Calls Tryd.prog 64 #[.pointer (some ⟨g, 0, none⟩)] w fun e w' => e = .returned (.int .i64 r1) ∧ IsS74 w0 w' g r2 r3 r4 ∧ Below w0.heap.size w0 w' ∧ KeepBut w w' g none := by
  have HI0 := Aside0.mk hI
  have HK := Aside0.mk (KeepBut.refl w g none)
  have HL := Aside0.mk hB.size
  clear hI
  have HW0 := Aside0.mk hB.size
  have HB := Aside0.mk hB
  clear hB
  have H : ((filter_parser_blanks.f k s0_0 s0_1 s0_2).bind fun bt151 => (if bt151.2.2 ≥ 0 then (some (0, bt151.1, bt151.2.1, bt151.2.2)) else (if bt151.2.1 < (bt151.1.size : Int) then (if 0 ≤ bt151.2.1 then (filter_parser_number.j0 k bt151.2.1 1 0 ((bt bt151.1 bt151.2.1) == 45) bt151.1 bt151.2.1 bt151.2.2) else (none)) else (filter_parser_number.j0 k bt151.2.1 1 0 false bt151.1 bt151.2.1 bt151.2.2)))) = some (r1, r2, r3, r4) := h
  clear h
  replace H := Option.bind_eq_some_iff.mp H
  obtain ⟨⟨t151, t152, t153⟩, A20, H⟩ := H
  replace H : (if t153 ≥ 0 then (some (0, t151, t152, t153)) else (if t152 < (t151.size : Int) then (if 0 ≤ t152 then (filter_parser_number.j0 k t152 1 0 ((bt t151 t152) == 45) t151 t152 t153) else (none)) else (filter_parser_number.j0 k t152 1 0 false t151 t152 t153))) = some (r1, r2, r3, r4) := H
  have A2 := Aside0.mk A20
  clear A20
  by_cases c3 : t153 ≥ 0
  · rw [if_pos c3] at H
    have c3b0 : decide (0 ≤ t153) = true := decide_eq_true c3
    clear c3
    simp only [Option.some.injEq, Prod.mk.injEq] at H
    obtain ⟨rfl, rfl, rfl, rfl⟩ := H
    go_enter Tryd.func64, Tryd.ntmps64
    go_wp2_with (first | (go_at_call 34; (with_reducible refine (filter_parser_blanks.calls k g s0_0 s0_1 s0_2 t151 t152 t153 w0 _ ?side1 ?side2 A2.out).mono ?_); (case side1 => repeat (first | (with_reducible first | exact HI0.out | apply IsS74.alloc | apply IsS74.drewN | apply IsS74.drew | apply IsS74.set_0 | apply IsS74.set_1 | apply IsS74.set_2) | exact HI0.out)); (case side2 => repeat (first | (with_reducible first | exact HB.out | apply below_alloc | apply pw_below_drewN | apply below_drew1 | refine below_set ?_ (IsS74.ge HI0.out)) | exact HB.out)); rintro e w4 ⟨rfl, hi, hb, hk⟩; have n0_ := Aside0.mk (KeepBut.trans (by repeat (first | (with_reducible first | exact HK.out | apply KeepBut.set_ | apply keep_drewN | apply keep_drew | apply keep_alloc) | exact HK.out)) hk (.inl rfl)); have n1_ := Aside0.mk (hb); have n2_ := Aside0.mk (hi); clear HK; clear HB; clear HI0; have HK := n0_; have HB := n1_; have HI0 := n2_; clear n0_ n1_ n2_; (try clear hb); (try clear hb2); (try clear hk); (try clear hi); obtain ⟨HGz5, hgz5⟩ := HI0.out; have hcz5_0 := cellS74_0 HGz5; have hcz5_1 := cellS74_1 HGz5; have hcz5_2 := cellS74_2 HGz5; have hfz5_0 := blk_frozen HGz5 0; have hfz5_1 := blk_frozen HGz5 1; have hfz5_2 := blk_frozen HGz5 2; clear HGz5 hgz5))
    repeat (go_quiet (first | (go_at_call 34; (with_reducible refine (filter_parser_blanks.calls k g s0_0 s0_1 s0_2 t151 t152 t153 w0 _ ?side1 ?side2 A2.out).mono ?_); (case side1 => repeat (first | (with_reducible first | exact HI0.out | apply IsS74.alloc | apply IsS74.drewN | apply IsS74.drew | apply IsS74.set_0 | apply IsS74.set_1 | apply IsS74.set_2) | exact HI0.out)); (case side2 => repeat (first | (with_reducible first | exact HB.out | apply below_alloc | apply pw_below_drewN | apply below_drew1 | refine below_set ?_ (IsS74.ge HI0.out)) | exact HB.out)); rintro e w4 ⟨rfl, hi, hb, hk⟩; have n0_ := Aside0.mk (KeepBut.trans (by repeat (first | (with_reducible first | exact HK.out | apply KeepBut.set_ | apply keep_drewN | apply keep_drew | apply keep_alloc) | exact HK.out)) hk (.inl rfl)); have n1_ := Aside0.mk (hb); have n2_ := Aside0.mk (hi); clear HK; clear HB; clear HI0; have HK := n0_; have HB := n1_; have HI0 := n2_; clear n0_ n1_ n2_; (try clear hb); (try clear hb2); (try clear hk); (try clear hi); obtain ⟨HGz5, hgz5⟩ := HI0.out; have hcz5_0 := cellS74_0 HGz5; have hcz5_1 := cellS74_1 HGz5; have hcz5_2 := cellS74_2 HGz5; have hfz5_0 := blk_frozen HGz5 0; have hfz5_1 := blk_frozen HGz5 1; have hfz5_2 := blk_frozen HGz5 2; clear HGz5 hgz5)); try go_wp2_with (first | (go_at_call 34; (with_reducible refine (filter_parser_blanks.calls k g s0_0 s0_1 s0_2 t151 t152 t153 w0 _ ?side1 ?side2 A2.out).mono ?_); (case side1 => repeat (first | (with_reducible first | exact HI0.out | apply IsS74.alloc | apply IsS74.drewN | apply IsS74.drew | apply IsS74.set_0 | apply IsS74.set_1 | apply IsS74.set_2) | exact HI0.out)); (case side2 => repeat (first | (with_reducible first | exact HB.out | apply below_alloc | apply pw_below_drewN | apply below_drew1 | refine below_set ?_ (IsS74.ge HI0.out)) | exact HB.out)); rintro e w4 ⟨rfl, hi, hb, hk⟩; have n0_ := Aside0.mk (KeepBut.trans (by repeat (first | (with_reducible first | exact HK.out | apply KeepBut.set_ | apply keep_drewN | apply keep_drew | apply keep_alloc) | exact HK.out)) hk (.inl rfl)); have n1_ := Aside0.mk (hb); have n2_ := Aside0.mk (hi); clear HK; clear HB; clear HI0; have HK := n0_; have HB := n1_; have HI0 := n2_; clear n0_ n1_ n2_; (try clear hb); (try clear hb2); (try clear hk); (try clear hi); obtain ⟨HGz5, hgz5⟩ := HI0.out; have hcz5_0 := cellS74_0 HGz5; have hcz5_1 := cellS74_1 HGz5; have hcz5_2 := cellS74_2 HGz5; have hfz5_0 := blk_frozen HGz5 0; have hfz5_1 := blk_frozen HGz5 1; have hfz5_2 := blk_frozen HGz5 2; clear HGz5 hgz5)))
    go_ret
    exact ⟨by first | rfl | (simp [errW_none, errW_some] <;> rfl) | (simp [*, errW_none, errW_some] <;> rfl), by repeat (first | (with_reducible first | exact HI0.out | apply IsS74.alloc | apply IsS74.drewN | apply IsS74.drew | apply IsS74.set_0 | apply IsS74.set_1 | apply IsS74.set_2) | exact HI0.out), by repeat (first | (with_reducible first | exact HB.out | apply below_alloc | apply pw_below_drewN | apply below_drew1 | refine below_set ?_ (IsS74.ge HI0.out)) | exact HB.out), by repeat (first | (with_reducible first | exact HK.out | apply KeepBut.set_ | apply keep_drewN | apply keep_drew | apply keep_alloc) | exact HK.out)⟩
  · rw [if_neg c3] at H
    have c3b0 : decide (0 ≤ t153) = false := decide_eq_false c3
    clear c3
    have HC6 := Aside0.mk H
    clear H
    go_enter Tryd.func64, Tryd.ntmps64
    go_upto_region 5 with (first | (go_at_call 34; (with_reducible refine (filter_parser_blanks.calls k g s0_0 s0_1 s0_2 t151 t152 t153 w0 _ ?side1 ?side2 A2.out).mono ?_); (case side1 => repeat (first | (with_reducible first | exact HI0.out | apply IsS74.alloc | apply IsS74.drewN | apply IsS74.drew | apply IsS74.set_0 | apply IsS74.set_1 | apply IsS74.set_2) | exact HI0.out)); (case side2 => repeat (first | (with_reducible first | exact HB.out | apply below_alloc | apply pw_below_drewN | apply below_drew1 | refine below_set ?_ (IsS74.ge HI0.out)) | exact HB.out)); rintro e w7 ⟨rfl, hi, hb, hk⟩; have n0_ := Aside0.mk (KeepBut.trans (by repeat (first | (with_reducible first | exact HK.out | apply KeepBut.set_ | apply keep_drewN | apply keep_drew | apply keep_alloc) | exact HK.out)) hk (.inl rfl)); have n1_ := Aside0.mk (hb); have n2_ := Aside0.mk (hi); clear HK; clear HB; clear HI0; have HK := n0_; have HB := n1_; have HI0 := n2_; clear n0_ n1_ n2_; (try clear hb); (try clear hb2); (try clear hk); (try clear hi); obtain ⟨HGz8, hgz8⟩ := HI0.out; have hcz8_0 := cellS74_0 HGz8; have hcz8_1 := cellS74_1 HGz8; have hcz8_2 := cellS74_2 HGz8; have hfz8_0 := blk_frozen HGz8 0; have hfz8_1 := blk_frozen HGz8 1; have hfz8_2 := blk_frozen HGz8 2; clear HGz8 hgz8))
    repeat (go_quiet (first | (go_at_call 34; (with_reducible refine (filter_parser_blanks.calls k g s0_0 s0_1 s0_2 t151 t152 t153 w0 _ ?side1 ?side2 A2.out).mono ?_); (case side1 => repeat (first | (with_reducible first | exact HI0.out | apply IsS74.alloc | apply IsS74.drewN | apply IsS74.drew | apply IsS74.set_0 | apply IsS74.set_1 | apply IsS74.set_2) | exact HI0.out)); (case side2 => repeat (first | (with_reducible first | exact HB.out | apply below_alloc | apply pw_below_drewN | apply below_drew1 | refine below_set ?_ (IsS74.ge HI0.out)) | exact HB.out)); rintro e w7 ⟨rfl, hi, hb, hk⟩; have n0_ := Aside0.mk (KeepBut.trans (by repeat (first | (with_reducible first | exact HK.out | apply KeepBut.set_ | apply keep_drewN | apply keep_drew | apply keep_alloc) | exact HK.out)) hk (.inl rfl)); have n1_ := Aside0.mk (hb); have n2_ := Aside0.mk (hi); clear HK; clear HB; clear HI0; have HK := n0_; have HB := n1_; have HI0 := n2_; clear n0_ n1_ n2_; (try clear hb); (try clear hb2); (try clear hk); (try clear hi); obtain ⟨HGz8, hgz8⟩ := HI0.out; have hcz8_0 := cellS74_0 HGz8; have hcz8_1 := cellS74_1 HGz8; have hcz8_2 := cellS74_2 HGz8; have hfz8_0 := blk_frozen HGz8 0; have hfz8_1 := blk_frozen HGz8 1; have hfz8_2 := blk_frozen HGz8 2; clear HGz8 hgz8)); go_upto_region 5 with (first | (go_at_call 34; (with_reducible refine (filter_parser_blanks.calls k g s0_0 s0_1 s0_2 t151 t152 t153 w0 _ ?side1 ?side2 A2.out).mono ?_); (case side1 => repeat (first | (with_reducible first | exact HI0.out | apply IsS74.alloc | apply IsS74.drewN | apply IsS74.drew | apply IsS74.set_0 | apply IsS74.set_1 | apply IsS74.set_2) | exact HI0.out)); (case side2 => repeat (first | (with_reducible first | exact HB.out | apply below_alloc | apply pw_below_drewN | apply below_drew1 | refine below_set ?_ (IsS74.ge HI0.out)) | exact HB.out)); rintro e w7 ⟨rfl, hi, hb, hk⟩; have n0_ := Aside0.mk (KeepBut.trans (by repeat (first | (with_reducible first | exact HK.out | apply KeepBut.set_ | apply keep_drewN | apply keep_drew | apply keep_alloc) | exact HK.out)) hk (.inl rfl)); have n1_ := Aside0.mk (hb); have n2_ := Aside0.mk (hi); clear HK; clear HB; clear HI0; have HK := n0_; have HB := n1_; have HI0 := n2_; clear n0_ n1_ n2_; (try clear hb); (try clear hb2); (try clear hk); (try clear hi); obtain ⟨HGz8, hgz8⟩ := HI0.out; have hcz8_0 := cellS74_0 HGz8; have hcz8_1 := cellS74_1 HGz8; have hcz8_2 := cellS74_2 HGz8; have hfz8_0 := blk_frozen HGz8 0; have hfz8_1 := blk_frozen HGz8 1; have hfz8_2 := blk_frozen HGz8 2; clear HGz8 hgz8)))
    (try simp only [Act.put, List.setIfInBounds_toArray, List.set_cons_zero, List.set_cons_succ])
    go_cut [39] (fun v39 wc => ∃ (kq : Nat) (x39_5 : Bool), v39 = .bool x39_5 ∧ Aside0 (filter_parser_number.j0 kq t152 1 0 x39_5 t151 t152 t153 = some (r1, r2, r3, r4)) ∧ Aside0 (kq ≤ k) ∧ Aside0 (IsS74 w0 wc g t151 t152 t153) ∧ Aside0 (KeepBut w wc g none) ∧ Aside0 (Below w0.heap.size w0 wc))
    case first =>
      have H := HC6.out
      clear HC6
      by_cases c9 : t152 < (t151.size : Int)
      · rw [if_pos c9] at H
        have c9b0 : decide (t152 < (t151.size : Int)) = true := decide_eq_true c9
        clear c9
        (first | rw [c9b0] | (simp only [i64_w, i32_w]; rw [c9b0]) | skip)
        by_cases c10 : 0 ≤ t152
        · rw [if_pos c10] at H
          have c10b0 : decide (0 ≤ t152) = true := decide_eq_true c10
          clear c10
          have H' := Aside0.mk H
          clear H
          obtain ⟨HGz12, hgz12⟩ := HI0.out
          have hcz12_0 := cellS74_0 HGz12
          have hcz12_1 := cellS74_1 HGz12
          have hcz12_2 := cellS74_2 HGz12
          have hfz12_0 := blk_frozen HGz12 0
          have hfz12_1 := blk_frozen HGz12 1
          have hfz12_2 := blk_frozen HGz12 2
          clear HGz12 hgz12
          have p11 : 0 ≤ (t152 : Int) := of_decide_eq_true (by first | (with_reducible assumption) | assumption)
          have q11 : t152 < (t151.size : Int) := of_decide_eq_true (by first | (with_reducible assumption) | assumption)
          have hx11 := bt_at t151 t152
          replace p11 := eq_true p11
          replace q11 := eq_true q11
          go_wp2
          repeat (go_quiet (fail); try go_wp2)
          go_meet
          case rel => exact ⟨_, (((bt t151 t152) == 45)), (by first | rfl | (simp; done) | (simp [*]; done)), H', ⟨by first | omega | exact Nat.le_refl _⟩, ⟨by repeat (first | (with_reducible first | exact HI0.out | apply IsS74.alloc | apply IsS74.drewN | apply IsS74.drew | apply IsS74.set_0 | apply IsS74.set_1 | apply IsS74.set_2) | exact HI0.out)⟩, ⟨by repeat (first | (with_reducible first | exact HK.out | apply KeepBut.set_ | apply keep_drewN | apply keep_drew | apply keep_alloc) | exact HK.out)⟩, ⟨by repeat (first | (with_reducible first | exact HB.out | apply below_alloc | apply pw_below_drewN | apply below_drew1 | refine below_set ?_ (IsS74.ge HI0.out)) | exact HB.out)⟩⟩
        · rw [if_neg c10] at H
          exact absurd H (by simp)
      · rw [if_neg c9] at H
        have c9b0 : decide (t152 < (t151.size : Int)) = false := decide_eq_false c9
        clear c9
        (first | rw [c9b0] | (simp only [i64_w, i32_w]; rw [c9b0]) | skip)
        have H' := Aside0.mk H
        clear H
        obtain ⟨HGz13, hgz13⟩ := HI0.out
        have hcz13_0 := cellS74_0 HGz13
        have hcz13_1 := cellS74_1 HGz13
        have hcz13_2 := cellS74_2 HGz13
        have hfz13_0 := blk_frozen HGz13 0
        have hfz13_1 := blk_frozen HGz13 1
        have hfz13_2 := blk_frozen HGz13 2
        clear HGz13 hgz13
        go_wp2
        repeat (go_quiet (fail); try go_wp2)
        go_meet
        case rel => exact ⟨_, (false), (by first | rfl | (simp; done) | (simp [*]; done)), H', ⟨by first | omega | exact Nat.le_refl _⟩, ⟨by repeat (first | (with_reducible first | exact HI0.out | apply IsS74.alloc | apply IsS74.drewN | apply IsS74.drew | apply IsS74.set_0 | apply IsS74.set_1 | apply IsS74.set_2) | exact HI0.out)⟩, ⟨by repeat (first | (with_reducible first | exact HK.out | apply KeepBut.set_ | apply keep_drewN | apply keep_drew | apply keep_alloc) | exact HK.out)⟩, ⟨by repeat (first | (with_reducible first | exact HB.out | apply below_alloc | apply pw_below_drewN | apply below_drew1 | refine below_set ?_ (IsS74.ge HI0.out)) | exact HB.out)⟩⟩
    case rest =>
      clear HC6
      try clear c1
      try clear p1
      try clear q1
      try clear hx1
      try clear p2
      try clear c3
      try clear c3b0
      try clear c6
      try clear c9
      try clear c9b0
      try clear c10
      try clear c10b0
      try clear p11
      try clear q11
      try clear hx11
      try clear hcz12_0
      try clear hcz12_1
      try clear hcz12_2
      try clear hcz13_0
      try clear hcz13_1
      try clear hcz13_2
      try clear hcz5_0
      try clear hcz5_1
      try clear hcz5_2
      try clear hcz8_0
      try clear hcz8_1
      try clear hcz8_2
      try clear hfz12_0
      try clear hfz12_1
      try clear hfz12_2
      try clear hfz13_0
      try clear hfz13_1
      try clear hfz13_2
      try clear hfz5_0
      try clear hfz5_1
      try clear hfz5_2
      try clear hfz8_0
      try clear hfz8_1
      try clear hfz8_2
      try clear p11
      try clear q11
      obtain ⟨kq, x39_5, rfl, HA, HJ5, HI0, HK, HB⟩ := hcut
      cases kq with
      | zero => exact absurd HA.out (by simp [filter_parser_number.j0])
      | succ kj5 =>
        have H := HA.out
        clear HA
        simp only [filter_parser_number.j0] at H
        have HC14 := Aside0.mk H
        clear H
        go_upto_if 39 with (fail)
        repeat (go_quiet (fail); go_upto_if 39 with (fail))
        go_cut [4] (fun v4 wc => ∃ (kq : Nat) (x4_13 : Int) (x1001_13 : Int), v4 = .int .i64 x4_13 ∧ Aside0 (filter_parser_number.j1 kq t152 x4_13 0 t151 x1001_13 t153 = some (r1, r2, r3, r4)) ∧ Aside0 (kq ≤ kj5) ∧ Aside0 (IsS74 w0 wc g t151 x1001_13 t153) ∧ Aside0 (KeepBut w wc g none) ∧ Aside0 (Below w0.heap.size w0 wc))
        case first =>
          have H := HC14.out
          clear HC14
          by_cases c15 : x39_5 = true
          · subst c15
            have H1 : (filter_parser_number.j1 kj5 t152 (-1) 0 t151 (wrap64 (t152 + 1)) t153) = some (r1, r2, r3, r4) := by rw [if_pos rfl] at H; exact H
            clear H
            have H := H1
            clear H1
            have H' := Aside0.mk H
            clear H
            obtain ⟨HGz16, hgz16⟩ := HI0.out
            have hcz16_0 := cellS74_0 HGz16
            have hcz16_1 := cellS74_1 HGz16
            have hcz16_2 := cellS74_2 HGz16
            have hfz16_0 := blk_frozen HGz16 0
            have hfz16_1 := blk_frozen HGz16 1
            have hfz16_2 := blk_frozen HGz16 2
            clear HGz16 hgz16
            go_wp2
            repeat (go_quiet (fail); try go_wp2)
            go_meet
            case rel => exact ⟨_, ((-1)), (wrap64 (t152 + 1)), (by first | rfl | (simp; done) | (simp [*]; done)), H', ⟨by have := HJ5.out; first | omega | exact Nat.le_refl _⟩, ⟨by repeat (first | (with_reducible first | exact HI0.out | apply IsS74.alloc | apply IsS74.drewN | apply IsS74.drew | apply IsS74.set_0 | apply IsS74.set_1 | apply IsS74.set_2) | exact HI0.out)⟩, ⟨by repeat (first | (with_reducible first | exact HK.out | apply KeepBut.set_ | apply keep_drewN | apply keep_drew | apply keep_alloc) | exact HK.out)⟩, ⟨by repeat (first | (with_reducible first | exact HB.out | apply below_alloc | apply pw_below_drewN | apply below_drew1 | refine below_set ?_ (IsS74.ge HI0.out)) | exact HB.out)⟩⟩
          · replace c15 := Bool.eq_false_iff.mpr c15
            subst c15
            have H1 : (filter_parser_number.j1 kj5 t152 1 0 t151 t152 t153) = some (r1, r2, r3, r4) := by rw [if_neg (show ¬ (false = true) by decide)] at H; exact H
            clear H
            have H := H1
            clear H1
            have H' := Aside0.mk H
            clear H
            go_wp2
            repeat (go_quiet (fail); try go_wp2)
            go_meet
            case rel => exact ⟨_, (1), (t152), (by first | rfl | (simp; done) | (simp [*]; done)), H', ⟨by have := HJ5.out; first | omega | exact Nat.le_refl _⟩, ⟨by repeat (first | (with_reducible first | exact HI0.out | apply IsS74.alloc | apply IsS74.drewN | apply IsS74.drew | apply IsS74.set_0 | apply IsS74.set_1 | apply IsS74.set_2) | exact HI0.out)⟩, ⟨by repeat (first | (with_reducible first | exact HK.out | apply KeepBut.set_ | apply keep_drewN | apply keep_drew | apply keep_alloc) | exact HK.out)⟩, ⟨by repeat (first | (with_reducible first | exact HB.out | apply below_alloc | apply pw_below_drewN | apply below_drew1 | refine below_set ?_ (IsS74.ge HI0.out)) | exact HB.out)⟩⟩
        case rest =>
          clear HC14
          try clear c1
          try clear p1
          try clear q1
          try clear hx1
          try clear p2
          try clear c3
          try clear c3b0
          try clear c6
          try clear p6
          try clear c9
          try clear c9b0
          try clear c10
          try clear c10b0
          try clear p11
          try clear q11
          try clear hx11
          try clear c15
          try clear hcz12_0
          try clear hcz12_1
          try clear hcz12_2
          try clear hcz13_0
          try clear hcz13_1
          try clear hcz13_2
          try clear hcz16_0
          try clear hcz16_1
          try clear hcz16_2
          try clear hcz5_0
          try clear hcz5_1
          try clear hcz5_2
          try clear hcz8_0
          try clear hcz8_1
          try clear hcz8_2
          try clear hfz12_0
          try clear hfz12_1
          try clear hfz12_2
          try clear hfz13_0
          try clear hfz13_1
          try clear hfz13_2
          try clear hfz16_0
          try clear hfz16_1
          try clear hfz16_2
          try clear hfz5_0
          try clear hfz5_1
          try clear hfz5_2
          try clear hfz8_0
          try clear hfz8_1
          try clear hfz8_2
          try clear p1
          try clear p11
          try clear p2
          try clear q1
          try clear q11
          obtain ⟨kq, x4_13, x1001_13, rfl, HA, HJ13, HI0, HK, HB⟩ := hcut
          cases kq with
          | zero => exact absurd HA.out (by simp [filter_parser_number.j1])
          | succ kj13 =>
            have H := HA.out
            clear HA
            simp only [filter_parser_number.j1] at H
            have H' := Aside0.mk H
            clear H
            obtain ⟨HGz17, hgz17⟩ := HI0.out
            have hcz17_0 := cellS74_0 HGz17
            have hcz17_1 := cellS74_1 HGz17
            have hcz17_2 := cellS74_2 HGz17
            have hfz17_0 := blk_frozen HGz17 0
            have hfz17_1 := blk_frozen HGz17 1
            have hfz17_2 := blk_frozen HGz17 2
            clear HGz17 hgz17
            go_wp2
            repeat (go_quiet (fail); try go_wp2)
            go_loopg [5] kj13 (fun kq v5 w' => ∃ (x5_3 : Int) (x1000_3 : ByteArray) (x1001_3 : Int) (x1002_3 : Int), v5 = .int .i64 x5_3 ∧ Aside0 (filter_parser_number.l0 kq t152 x4_13 x5_3 x1001_13 x1000_3 x1001_3 x1002_3 = some (r1, r2, r3, r4)) ∧ Aside0 (kq ≤ kj13) ∧ Aside0 (IsS74 w0 w' g x1000_3 x1001_3 x1002_3) ∧ Aside0 (KeepBut w w' g none) ∧ Aside0 (Below w0.heap.size w0 w'))
            case atStart => exact ⟨(0), (t151), (x1001_13), (t153), (by first | rfl | (simp; done) | (simp [*]; done)), H', ⟨Nat.le_refl _⟩, ⟨by repeat (first | (with_reducible first | exact HI0.out | apply IsS74.alloc | apply IsS74.drewN | apply IsS74.drew | apply IsS74.set_0 | apply IsS74.set_1 | apply IsS74.set_2) | exact HI0.out)⟩, ⟨by repeat (first | (with_reducible first | exact HK.out | apply KeepBut.set_ | apply keep_drewN | apply keep_drew | apply keep_alloc) | exact HK.out)⟩, ⟨by repeat (first | (with_reducible first | exact HB.out | apply below_alloc | apply pw_below_drewN | apply below_drew1 | refine below_set ?_ (IsS74.ge HI0.out)) | exact HB.out)⟩⟩
            case round =>
              clear H'
              try clear c1
              try clear p1
              try clear q1
              try clear hx1
              try clear p2
              try clear c3
              try clear c3b0
              try clear c6
              try clear p6
              try clear c9
              try clear c9b0
              try clear c10
              try clear c10b0
              try clear p11
              try clear q11
              try clear hx11
              try clear c15
              try clear hcz12_0
              try clear hcz12_1
              try clear hcz12_2
              try clear hcz13_0
              try clear hcz13_1
              try clear hcz13_2
              try clear hcz16_0
              try clear hcz16_1
              try clear hcz16_2
              try clear hcz17_0
              try clear hcz17_1
              try clear hcz17_2
              try clear hcz5_0
              try clear hcz5_1
              try clear hcz5_2
              try clear hcz8_0
              try clear hcz8_1
              try clear hcz8_2
              try clear hfz12_0
              try clear hfz12_1
              try clear hfz12_2
              try clear hfz13_0
              try clear hfz13_1
              try clear hfz13_2
              try clear hfz16_0
              try clear hfz16_1
              try clear hfz16_2
              try clear hfz17_0
              try clear hfz17_1
              try clear hfz17_2
              try clear hfz5_0
              try clear hfz5_1
              try clear hfz5_2
              try clear hfz8_0
              try clear hfz8_1
              try clear hfz8_2
              try clear p1
              try clear p11
              try clear p2
              try clear p6
              try clear q1
              try clear q11
              obtain ⟨x5_3, x1000_3, x1001_3, x1002_3, rfl, HA, HK3, HI0, HK, HB⟩ := hrel
              cases gk with
              | zero => exact absurd HA.out (by simp [filter_parser_number.l0])
              | succ k3 =>
                have H := HA.out
                clear HA
                simp only [filter_parser_number.l0] at H
                have HC18 := Aside0.mk H
                clear H
                go_upto_region 9 with (fail)
                repeat (go_quiet (fail); go_upto_region 9 with (fail))
                go_cut [72] (fun v72 wc => ∃ (kq : Nat) (x72_17 : Bool), v72 = .bool x72_17 ∧ Aside0 (filter_parser_number.j3 kq t152 x4_13 x5_3 x1001_13 x72_17 x1000_3 x1001_3 x1002_3 = some (r1, r2, r3, r4)) ∧ Aside0 (kq ≤ k3) ∧ Aside0 (IsS74 w0 wc g x1000_3 x1001_3 x1002_3) ∧ Aside0 (KeepBut w wc g none) ∧ Aside0 (Below w0.heap.size w0 wc))
                case first =>
                  have H := HC18.out
                  clear HC18
                  by_cases c19 : x1001_3 < (x1000_3.size : Int)
                  · rw [if_pos c19] at H
                    have c19b0 : decide (x1001_3 < (x1000_3.size : Int)) = true := decide_eq_true c19
                    clear c19
                    (first | rw [c19b0] | (simp only [i64_w, i32_w]; rw [c19b0]) | skip)
                    by_cases c20 : 0 ≤ x1001_3
                    · rw [if_pos c20] at H
                      have c20b0 : decide (0 ≤ x1001_3) = true := decide_eq_true c20
                      clear c20
                      replace H := Option.bind_eq_some_iff.mp H
                      obtain ⟨t154, A220, H⟩ := H
                      replace H : (filter_parser_number.j3 k3 t152 x4_13 x5_3 x1001_13 t154 x1000_3 x1001_3 x1002_3) = some (r1, r2, r3, r4) := H
                      have A22 := Aside0.mk A220
                      clear A220
                      have H' := Aside0.mk H
                      clear H
                      obtain ⟨HGz23, hgz23⟩ := HI0.out
                      have hcz23_0 := cellS74_0 HGz23
                      have hcz23_1 := cellS74_1 HGz23
                      have hcz23_2 := cellS74_2 HGz23
                      have hfz23_0 := blk_frozen HGz23 0
                      have hfz23_1 := blk_frozen HGz23 1
                      have hfz23_2 := blk_frozen HGz23 2
                      clear HGz23 hgz23
                      have p21 : 0 ≤ (x1001_3 : Int) := of_decide_eq_true (by first | (with_reducible assumption) | assumption)
                      have q21 : x1001_3 < (x1000_3.size : Int) := of_decide_eq_true (by first | (with_reducible assumption) | assumption)
                      have hx21 := bt_at x1000_3 x1001_3
                      replace p21 := eq_true p21
                      replace q21 := eq_true q21
                      go_wp2_with (first | (go_at_call 66; (with_reducible refine (filter_digit.calls (bt x1000_3 x1001_3) t154 _ A22.out).mono ?_); rintro e w' ⟨rfl, ⟨nd, rfl⟩⟩; (try first | exact ⟨rfl, _, World.drewN_drewN _ _ _⟩ | exact ⟨rfl, _, Eq.trans (World.drewN_drewN _ _ _) (congrArg (World.drewN _) (Nat.add_assoc _ _ _))⟩)))
                      repeat (go_quiet (first | (go_at_call 66; (with_reducible refine (filter_digit.calls (bt x1000_3 x1001_3) t154 _ A22.out).mono ?_); rintro e w' ⟨rfl, ⟨nd, rfl⟩⟩; (try first | exact ⟨rfl, _, World.drewN_drewN _ _ _⟩ | exact ⟨rfl, _, Eq.trans (World.drewN_drewN _ _ _) (congrArg (World.drewN _) (Nat.add_assoc _ _ _))⟩))); try go_wp2_with (first | (go_at_call 66; (with_reducible refine (filter_digit.calls (bt x1000_3 x1001_3) t154 _ A22.out).mono ?_); rintro e w' ⟨rfl, ⟨nd, rfl⟩⟩; (try first | exact ⟨rfl, _, World.drewN_drewN _ _ _⟩ | exact ⟨rfl, _, Eq.trans (World.drewN_drewN _ _ _) (congrArg (World.drewN _) (Nat.add_assoc _ _ _))⟩))))
                      go_meet
                      case rel => exact ⟨_, (t154), (by first | rfl | (simp; done) | (simp [*]; done)), H', ⟨by have := HJ5.out; have := HJ13.out; have := HK3.out; first | omega | exact Nat.le_refl _⟩, ⟨by repeat (first | (with_reducible first | exact HI0.out | apply IsS74.alloc | apply IsS74.drewN | apply IsS74.drew | apply IsS74.set_0 | apply IsS74.set_1 | apply IsS74.set_2) | exact HI0.out)⟩, ⟨by repeat (first | (with_reducible first | exact HK.out | apply KeepBut.set_ | apply keep_drewN | apply keep_drew | apply keep_alloc) | exact HK.out)⟩, ⟨by repeat (first | (with_reducible first | exact HB.out | apply below_alloc | apply pw_below_drewN | apply below_drew1 | refine below_set ?_ (IsS74.ge HI0.out)) | exact HB.out)⟩⟩
                    · rw [if_neg c20] at H
                      exact absurd H (by simp)
                  · rw [if_neg c19] at H
                    have c19b0 : decide (x1001_3 < (x1000_3.size : Int)) = false := decide_eq_false c19
                    clear c19
                    (first | rw [c19b0] | (simp only [i64_w, i32_w]; rw [c19b0]) | skip)
                    have H' := Aside0.mk H
                    clear H
                    obtain ⟨HGz24, hgz24⟩ := HI0.out
                    have hcz24_0 := cellS74_0 HGz24
                    have hcz24_1 := cellS74_1 HGz24
                    have hcz24_2 := cellS74_2 HGz24
                    have hfz24_0 := blk_frozen HGz24 0
                    have hfz24_1 := blk_frozen HGz24 1
                    have hfz24_2 := blk_frozen HGz24 2
                    clear HGz24 hgz24
                    go_wp2
                    repeat (go_quiet (fail); try go_wp2)
                    go_meet
                    case rel => exact ⟨_, (false), (by first | rfl | (simp; done) | (simp [*]; done)), H', ⟨by have := HJ5.out; have := HJ13.out; have := HK3.out; first | omega | exact Nat.le_refl _⟩, ⟨by repeat (first | (with_reducible first | exact HI0.out | apply IsS74.alloc | apply IsS74.drewN | apply IsS74.drew | apply IsS74.set_0 | apply IsS74.set_1 | apply IsS74.set_2) | exact HI0.out)⟩, ⟨by repeat (first | (with_reducible first | exact HK.out | apply KeepBut.set_ | apply keep_drewN | apply keep_drew | apply keep_alloc) | exact HK.out)⟩, ⟨by repeat (first | (with_reducible first | exact HB.out | apply below_alloc | apply pw_below_drewN | apply below_drew1 | refine below_set ?_ (IsS74.ge HI0.out)) | exact HB.out)⟩⟩
                case rest =>
                  clear HC18
                  try clear c1
                  try clear p1
                  try clear q1
                  try clear hx1
                  try clear c2
                  try clear p2
                  try clear q2
                  try clear hx2
                  try clear c3
                  try clear c3b0
                  try clear c6
                  try clear p6
                  try clear c9
                  try clear c9b0
                  try clear c10
                  try clear c10b0
                  try clear p11
                  try clear q11
                  try clear hx11
                  try clear c15
                  try clear c19
                  try clear c19b0
                  try clear c20
                  try clear c20b0
                  try clear p21
                  try clear q21
                  try clear hx21
                  try clear hcz12_0
                  try clear hcz12_1
                  try clear hcz12_2
                  try clear hcz13_0
                  try clear hcz13_1
                  try clear hcz13_2
                  try clear hcz16_0
                  try clear hcz16_1
                  try clear hcz16_2
                  try clear hcz17_0
                  try clear hcz17_1
                  try clear hcz17_2
                  try clear hcz23_0
                  try clear hcz23_1
                  try clear hcz23_2
                  try clear hcz24_0
                  try clear hcz24_1
                  try clear hcz24_2
                  try clear hcz5_0
                  try clear hcz5_1
                  try clear hcz5_2
                  try clear hcz8_0
                  try clear hcz8_1
                  try clear hcz8_2
                  try clear hfz12_0
                  try clear hfz12_1
                  try clear hfz12_2
                  try clear hfz13_0
                  try clear hfz13_1
                  try clear hfz13_2
                  try clear hfz16_0
                  try clear hfz16_1
                  try clear hfz16_2
                  try clear hfz17_0
                  try clear hfz17_1
                  try clear hfz17_2
                  try clear hfz23_0
                  try clear hfz23_1
                  try clear hfz23_2
                  try clear hfz24_0
                  try clear hfz24_1
                  try clear hfz24_2
                  try clear hfz5_0
                  try clear hfz5_1
                  try clear hfz5_2
                  try clear hfz8_0
                  try clear hfz8_1
                  try clear hfz8_2
                  try clear p1
                  try clear p11
                  try clear p2
                  try clear p21
                  try clear p6
                  try clear q1
                  try clear q11
                  try clear q21
                  obtain ⟨kq, x72_17, rfl, HA, HJ17, HI0, HK, HB⟩ := hcut
                  cases kq with
                  | zero => exact absurd HA.out (by simp [filter_parser_number.j3])
                  | succ kj17 =>
                    have H := HA.out
                    clear HA
                    simp only [filter_parser_number.j3] at H
                    by_cases c25 : x72_17 = true
                    · subst c25
                      have H1 : (if (wrap64 (x1001_3 - x1001_13)) ≥ 10 then ((filter_parser_stop.f x1000_3 x1001_3 x1002_3 t152).bind fun bt155 => (some (0, bt155.1, bt155.2.1, bt155.2.2))) else (if 0 ≤ x1001_3 then (if x1001_3 < (x1000_3.size : Int) then (filter_parser_number.l0 kj17 t152 x4_13 (wrap64 ((wrap64 (10 * x5_3)) + (((bt x1000_3 x1001_3) - 48) % 256))) x1001_13 x1000_3 (wrap64 (x1001_3 + 1)) x1002_3) else (none)) else (none))) = some (r1, r2, r3, r4) := by rw [if_pos rfl] at H; exact H
                      clear H
                      have H := H1
                      clear H1
                      by_cases c26 : (wrap64 (x1001_3 - x1001_13)) ≥ 10
                      · rw [if_pos c26] at H
                        have c26b0 : decide (10 ≤ (wrap64 (x1001_3 - x1001_13))) = true := decide_eq_true c26
                        clear c26
                        replace H := Option.bind_eq_some_iff.mp H
                        obtain ⟨⟨t155, t156, t157⟩, A270, H⟩ := H
                        replace H : (some (0, t155, t156, t157)) = some (r1, r2, r3, r4) := H
                        have A27 := Aside0.mk A270
                        clear A270
                        simp only [Option.some.injEq, Prod.mk.injEq] at H
                        obtain ⟨rfl, rfl, rfl, rfl⟩ := H
                        obtain ⟨HGz28, hgz28⟩ := HI0.out
                        have hcz28_0 := cellS74_0 HGz28
                        have hcz28_1 := cellS74_1 HGz28
                        have hcz28_2 := cellS74_2 HGz28
                        have hfz28_0 := blk_frozen HGz28 0
                        have hfz28_1 := blk_frozen HGz28 1
                        have hfz28_2 := blk_frozen HGz28 2
                        clear HGz28 hgz28
                        go_wp2_with (first | (go_at_call 36; (with_reducible refine (filter_parser_stop.calls g x1000_3 x1001_3 x1002_3 t152 t155 t156 t157 w0 _ ?side1 ?side2 A27.out).mono ?_); (case side1 => repeat (first | (with_reducible first | exact HI0.out | apply IsS74.alloc | apply IsS74.drewN | apply IsS74.drew | apply IsS74.set_0 | apply IsS74.set_1 | apply IsS74.set_2) | exact HI0.out)); (case side2 => repeat (first | (with_reducible first | exact HB.out | apply below_alloc | apply pw_below_drewN | apply below_drew1 | refine below_set ?_ (IsS74.ge HI0.out)) | exact HB.out)); rintro e w29 ⟨rfl, hi, hb, hk⟩; have n0_ := Aside0.mk (KeepBut.trans (by repeat (first | (with_reducible first | exact HK.out | apply KeepBut.set_ | apply keep_drewN | apply keep_drew | apply keep_alloc) | exact HK.out)) hk (.inl rfl)); have n1_ := Aside0.mk (hb); have n2_ := Aside0.mk (hi); clear HK; clear HB; clear HI0; have HK := n0_; have HB := n1_; have HI0 := n2_; clear n0_ n1_ n2_; (try clear hb); (try clear hb2); (try clear hk); (try clear hi)))
                        repeat (go_quiet (first | (go_at_call 36; (with_reducible refine (filter_parser_stop.calls g x1000_3 x1001_3 x1002_3 t152 t155 t156 t157 w0 _ ?side1 ?side2 A27.out).mono ?_); (case side1 => repeat (first | (with_reducible first | exact HI0.out | apply IsS74.alloc | apply IsS74.drewN | apply IsS74.drew | apply IsS74.set_0 | apply IsS74.set_1 | apply IsS74.set_2) | exact HI0.out)); (case side2 => repeat (first | (with_reducible first | exact HB.out | apply below_alloc | apply pw_below_drewN | apply below_drew1 | refine below_set ?_ (IsS74.ge HI0.out)) | exact HB.out)); rintro e w29 ⟨rfl, hi, hb, hk⟩; have n0_ := Aside0.mk (KeepBut.trans (by repeat (first | (with_reducible first | exact HK.out | apply KeepBut.set_ | apply keep_drewN | apply keep_drew | apply keep_alloc) | exact HK.out)) hk (.inl rfl)); have n1_ := Aside0.mk (hb); have n2_ := Aside0.mk (hi); clear HK; clear HB; clear HI0; have HK := n0_; have HB := n1_; have HI0 := n2_; clear n0_ n1_ n2_; (try clear hb); (try clear hb2); (try clear hk); (try clear hi))); try go_wp2_with (first | (go_at_call 36; (with_reducible refine (filter_parser_stop.calls g x1000_3 x1001_3 x1002_3 t152 t155 t156 t157 w0 _ ?side1 ?side2 A27.out).mono ?_); (case side1 => repeat (first | (with_reducible first | exact HI0.out | apply IsS74.alloc | apply IsS74.drewN | apply IsS74.drew | apply IsS74.set_0 | apply IsS74.set_1 | apply IsS74.set_2) | exact HI0.out)); (case side2 => repeat (first | (with_reducible first | exact HB.out | apply below_alloc | apply pw_below_drewN | apply below_drew1 | refine below_set ?_ (IsS74.ge HI0.out)) | exact HB.out)); rintro e w29 ⟨rfl, hi, hb, hk⟩; have n0_ := Aside0.mk (KeepBut.trans (by repeat (first | (with_reducible first | exact HK.out | apply KeepBut.set_ | apply keep_drewN | apply keep_drew | apply keep_alloc) | exact HK.out)) hk (.inl rfl)); have n1_ := Aside0.mk (hb); have n2_ := Aside0.mk (hi); clear HK; clear HB; clear HI0; have HK := n0_; have HB := n1_; have HI0 := n2_; clear n0_ n1_ n2_; (try clear hb); (try clear hb2); (try clear hk); (try clear hi))))
                        go_ret
                        exact ⟨by first | rfl | (simp [errW_none, errW_some] <;> rfl) | (simp [*, errW_none, errW_some] <;> rfl), by repeat (first | (with_reducible first | exact HI0.out | apply IsS74.alloc | apply IsS74.drewN | apply IsS74.drew | apply IsS74.set_0 | apply IsS74.set_1 | apply IsS74.set_2) | exact HI0.out), by repeat (first | (with_reducible first | exact HB.out | apply below_alloc | apply pw_below_drewN | apply below_drew1 | refine below_set ?_ (IsS74.ge HI0.out)) | exact HB.out), by repeat (first | (with_reducible first | exact HK.out | apply KeepBut.set_ | apply keep_drewN | apply keep_drew | apply keep_alloc) | exact HK.out)⟩
                      · rw [if_neg c26] at H
                        have c26b0 : decide (10 ≤ (wrap64 (x1001_3 - x1001_13))) = false := decide_eq_false c26
                        clear c26
                        by_cases c30 : 0 ≤ x1001_3
                        · rw [if_pos c30] at H
                          have c30b0 : decide (0 ≤ x1001_3) = true := decide_eq_true c30
                          clear c30
                          by_cases c31 : x1001_3 < (x1000_3.size : Int)
                          · rw [if_pos c31] at H
                            have c31b0 : decide (x1001_3 < (x1000_3.size : Int)) = true := decide_eq_true c31
                            clear c31
                            have H' := Aside0.mk H
                            clear H
                            obtain ⟨HGz33, hgz33⟩ := HI0.out
                            have hcz33_0 := cellS74_0 HGz33
                            have hcz33_1 := cellS74_1 HGz33
                            have hcz33_2 := cellS74_2 HGz33
                            have hfz33_0 := blk_frozen HGz33 0
                            have hfz33_1 := blk_frozen HGz33 1
                            have hfz33_2 := blk_frozen HGz33 2
                            clear HGz33 hgz33
                            have p32 : 0 ≤ (x1001_3 : Int) := of_decide_eq_true (by first | (with_reducible assumption) | assumption)
                            have q32 : x1001_3 < (x1000_3.size : Int) := of_decide_eq_true (by first | (with_reducible assumption) | assumption)
                            have hx32 := bt_at x1000_3 x1001_3
                            replace p32 := eq_true p32
                            replace q32 := eq_true q32
                            go_wp2
                            repeat (go_quiet (fail); try go_wp2)
                            go_roundg kj17
                            case measure => have := HJ5.out; have := HJ13.out; have := HK3.out; have := HJ17.out; omega
                            case rel => exact ⟨(wrap64 ((wrap64 (10 * x5_3)) + (((bt x1000_3 x1001_3) - 48) % 256))), (x1000_3), (wrap64 (x1001_3 + 1)), (x1002_3), (by first | rfl | (simp; done) | (simp [*]; done)), H', ⟨by have := HJ5.out; have := HJ13.out; have := HK3.out; have := HJ17.out; omega⟩, ⟨by repeat (first | (with_reducible first | exact HI0.out | apply IsS74.alloc | apply IsS74.drewN | apply IsS74.drew | apply IsS74.set_0 | apply IsS74.set_1 | apply IsS74.set_2) | exact HI0.out)⟩, ⟨by repeat (first | (with_reducible first | exact HK.out | apply KeepBut.set_ | apply keep_drewN | apply keep_drew | apply keep_alloc) | exact HK.out)⟩, ⟨by repeat (first | (with_reducible first | exact HB.out | apply below_alloc | apply pw_below_drewN | apply below_drew1 | refine below_set ?_ (IsS74.ge HI0.out)) | exact HB.out)⟩⟩
                          · rw [if_neg c31] at H
                            exact absurd H (by simp)
                        · rw [if_neg c30] at H
                          exact absurd H (by simp)
                    · replace c25 := Bool.eq_false_iff.mpr c25
                      subst c25
                      have H1 : (if x1001_3 = x1001_13 then ((filter_parser_stop.f x1000_3 x1001_3 x1002_3 t152).bind fun bt158 => (some (wrap64 (x4_13 * x5_3), bt158.1, bt158.2.1, bt158.2.2))) else (if (wrap64 (x1001_3 - x1001_13)) > 1 then (if 0 ≤ x1001_13 then (if x1001_13 < (x1000_3.size : Int) then (if (bt x1000_3 x1001_13) = 48 then ((filter_parser_stop.f x1000_3 x1001_3 x1002_3 t152).bind fun bt161 => (some (wrap64 (x4_13 * x5_3), bt161.1, bt161.2.1, bt161.2.2))) else (if x4_13 < 0 then (if x5_3 = 0 then ((filter_parser_stop.f x1000_3 x1001_3 x1002_3 t152).bind fun bt164 => (some (wrap64 (x4_13 * x5_3), bt164.1, bt164.2.1, bt164.2.2))) else (some (wrap64 (x4_13 * x5_3), x1000_3, x1001_3, x1002_3))) else (some (wrap64 (x4_13 * x5_3), x1000_3, x1001_3, x1002_3)))) else (none)) else (none)) else (if x4_13 < 0 then (if x5_3 = 0 then ((filter_parser_stop.f x1000_3 x1001_3 x1002_3 t152).bind fun bt167 => (some (wrap64 (x4_13 * x5_3), bt167.1, bt167.2.1, bt167.2.2))) else (some (wrap64 (x4_13 * x5_3), x1000_3, x1001_3, x1002_3))) else (some (wrap64 (x4_13 * x5_3), x1000_3, x1001_3, x1002_3))))) = some (r1, r2, r3, r4) := by rw [if_neg (show ¬ (false = true) by decide)] at H; exact H
                      clear H
                      have H := H1
                      clear H1
                      by_cases c34 : x1001_3 = x1001_13
                      · rw [if_pos c34] at H
                        have c34b0 : (x1001_3 == x1001_13) = true := beq_iff_eq.mpr c34
                        have c34b1 : (x1001_3 != x1001_13) = false := bne_eq_false_iff_eq.mpr c34
                        clear c34
                        replace H := Option.bind_eq_some_iff.mp H
                        obtain ⟨⟨t158, t159, t160⟩, A350, H⟩ := H
                        replace H : (some (wrap64 (x4_13 * x5_3), t158, t159, t160)) = some (r1, r2, r3, r4) := H
                        have A35 := Aside0.mk A350
                        clear A350
                        simp only [Option.some.injEq, Prod.mk.injEq] at H
                        obtain ⟨rfl, rfl, rfl, rfl⟩ := H
                        obtain ⟨HGz36, hgz36⟩ := HI0.out
                        have hcz36_0 := cellS74_0 HGz36
                        have hcz36_1 := cellS74_1 HGz36
                        have hcz36_2 := cellS74_2 HGz36
                        have hfz36_0 := blk_frozen HGz36 0
                        have hfz36_1 := blk_frozen HGz36 1
                        have hfz36_2 := blk_frozen HGz36 2
                        clear HGz36 hgz36
                        go_wp2_with (first | (go_at_call 36; (with_reducible refine (filter_parser_stop.calls g x1000_3 x1001_3 x1002_3 t152 t158 t159 t160 w0 _ ?side1 ?side2 A35.out).mono ?_); (case side1 => repeat (first | (with_reducible first | exact HI0.out | apply IsS74.alloc | apply IsS74.drewN | apply IsS74.drew | apply IsS74.set_0 | apply IsS74.set_1 | apply IsS74.set_2) | exact HI0.out)); (case side2 => repeat (first | (with_reducible first | exact HB.out | apply below_alloc | apply pw_below_drewN | apply below_drew1 | refine below_set ?_ (IsS74.ge HI0.out)) | exact HB.out)); rintro e w37 ⟨rfl, hi, hb, hk⟩; have n0_ := Aside0.mk (KeepBut.trans (by repeat (first | (with_reducible first | exact HK.out | apply KeepBut.set_ | apply keep_drewN | apply keep_drew | apply keep_alloc) | exact HK.out)) hk (.inl rfl)); have n1_ := Aside0.mk (hb); have n2_ := Aside0.mk (hi); clear HK; clear HB; clear HI0; have HK := n0_; have HB := n1_; have HI0 := n2_; clear n0_ n1_ n2_; (try clear hb); (try clear hb2); (try clear hk); (try clear hi)))
                        repeat (go_quiet (first | (go_at_call 36; (with_reducible refine (filter_parser_stop.calls g x1000_3 x1001_3 x1002_3 t152 t158 t159 t160 w0 _ ?side1 ?side2 A35.out).mono ?_); (case side1 => repeat (first | (with_reducible first | exact HI0.out | apply IsS74.alloc | apply IsS74.drewN | apply IsS74.drew | apply IsS74.set_0 | apply IsS74.set_1 | apply IsS74.set_2) | exact HI0.out)); (case side2 => repeat (first | (with_reducible first | exact HB.out | apply below_alloc | apply pw_below_drewN | apply below_drew1 | refine below_set ?_ (IsS74.ge HI0.out)) | exact HB.out)); rintro e w37 ⟨rfl, hi, hb, hk⟩; have n0_ := Aside0.mk (KeepBut.trans (by repeat (first | (with_reducible first | exact HK.out | apply KeepBut.set_ | apply keep_drewN | apply keep_drew | apply keep_alloc) | exact HK.out)) hk (.inl rfl)); have n1_ := Aside0.mk (hb); have n2_ := Aside0.mk (hi); clear HK; clear HB; clear HI0; have HK := n0_; have HB := n1_; have HI0 := n2_; clear n0_ n1_ n2_; (try clear hb); (try clear hb2); (try clear hk); (try clear hi))); try go_wp2_with (first | (go_at_call 36; (with_reducible refine (filter_parser_stop.calls g x1000_3 x1001_3 x1002_3 t152 t158 t159 t160 w0 _ ?side1 ?side2 A35.out).mono ?_); (case side1 => repeat (first | (with_reducible first | exact HI0.out | apply IsS74.alloc | apply IsS74.drewN | apply IsS74.drew | apply IsS74.set_0 | apply IsS74.set_1 | apply IsS74.set_2) | exact HI0.out)); (case side2 => repeat (first | (with_reducible first | exact HB.out | apply below_alloc | apply pw_below_drewN | apply below_drew1 | refine below_set ?_ (IsS74.ge HI0.out)) | exact HB.out)); rintro e w37 ⟨rfl, hi, hb, hk⟩; have n0_ := Aside0.mk (KeepBut.trans (by repeat (first | (with_reducible first | exact HK.out | apply KeepBut.set_ | apply keep_drewN | apply keep_drew | apply keep_alloc) | exact HK.out)) hk (.inl rfl)); have n1_ := Aside0.mk (hb); have n2_ := Aside0.mk (hi); clear HK; clear HB; clear HI0; have HK := n0_; have HB := n1_; have HI0 := n2_; clear n0_ n1_ n2_; (try clear hb); (try clear hb2); (try clear hk); (try clear hi))))
                        go_ret
                        exact ⟨by first | rfl | (simp [errW_none, errW_some] <;> rfl) | (simp [*, errW_none, errW_some] <;> rfl), by repeat (first | (with_reducible first | exact HI0.out | apply IsS74.alloc | apply IsS74.drewN | apply IsS74.drew | apply IsS74.set_0 | apply IsS74.set_1 | apply IsS74.set_2) | exact HI0.out), by repeat (first | (with_reducible first | exact HB.out | apply below_alloc | apply pw_below_drewN | apply below_drew1 | refine below_set ?_ (IsS74.ge HI0.out)) | exact HB.out), by repeat (first | (with_reducible first | exact HK.out | apply KeepBut.set_ | apply keep_drewN | apply keep_drew | apply keep_alloc) | exact HK.out)⟩
                      · rw [if_neg c34] at H
                        have c34b0 : (x1001_3 == x1001_13) = false := beq_eq_false_iff_ne.mpr c34
                        have c34b1 : (x1001_3 != x1001_13) = true := bne_iff_ne.mpr c34
                        by_cases c38 : (wrap64 (x1001_3 - x1001_13)) > 1
                        · rw [if_pos c38] at H
                          have c38b0 : decide (1 < (wrap64 (x1001_3 - x1001_13))) = true := decide_eq_true c38
                          clear c38
                          by_cases c39 : 0 ≤ x1001_13
                          · rw [if_pos c39] at H
                            have c39b0 : decide (0 ≤ x1001_13) = true := decide_eq_true c39
                            clear c39
                            by_cases c40 : x1001_13 < (x1000_3.size : Int)
                            · rw [if_pos c40] at H
                              have c40b0 : decide (x1001_13 < (x1000_3.size : Int)) = true := decide_eq_true c40
                              clear c40
                              by_cases c42 : (bt x1000_3 x1001_13) = 48
                              · rw [if_pos c42] at H
                                have c42b0 : ((bt x1000_3 x1001_13) == 48) = true := beq_iff_eq.mpr c42
                                have c42b1 : ((bt x1000_3 x1001_13) != 48) = false := bne_eq_false_iff_eq.mpr c42
                                clear c42
                                replace H := Option.bind_eq_some_iff.mp H
                                obtain ⟨⟨t161, t162, t163⟩, A430, H⟩ := H
                                replace H : (some (wrap64 (x4_13 * x5_3), t161, t162, t163)) = some (r1, r2, r3, r4) := H
                                have A43 := Aside0.mk A430
                                clear A430
                                simp only [Option.some.injEq, Prod.mk.injEq] at H
                                obtain ⟨rfl, rfl, rfl, rfl⟩ := H
                                obtain ⟨HGz44, hgz44⟩ := HI0.out
                                have hcz44_0 := cellS74_0 HGz44
                                have hcz44_1 := cellS74_1 HGz44
                                have hcz44_2 := cellS74_2 HGz44
                                have hfz44_0 := blk_frozen HGz44 0
                                have hfz44_1 := blk_frozen HGz44 1
                                have hfz44_2 := blk_frozen HGz44 2
                                clear HGz44 hgz44
                                have p41 : 0 ≤ (x1001_13 : Int) := of_decide_eq_true (by first | (with_reducible assumption) | assumption)
                                have q41 : x1001_13 < (x1000_3.size : Int) := of_decide_eq_true (by first | (with_reducible assumption) | assumption)
                                have hx41 := bt_at x1000_3 x1001_13
                                replace p41 := eq_true p41
                                replace q41 := eq_true q41
                                go_wp2_with (first | (go_at_call 36; (with_reducible refine (filter_parser_stop.calls g x1000_3 x1001_3 x1002_3 t152 t161 t162 t163 w0 _ ?side1 ?side2 A43.out).mono ?_); (case side1 => repeat (first | (with_reducible first | exact HI0.out | apply IsS74.alloc | apply IsS74.drewN | apply IsS74.drew | apply IsS74.set_0 | apply IsS74.set_1 | apply IsS74.set_2) | exact HI0.out)); (case side2 => repeat (first | (with_reducible first | exact HB.out | apply below_alloc | apply pw_below_drewN | apply below_drew1 | refine below_set ?_ (IsS74.ge HI0.out)) | exact HB.out)); rintro e w45 ⟨rfl, hi, hb, hk⟩; have n0_ := Aside0.mk (KeepBut.trans (by repeat (first | (with_reducible first | exact HK.out | apply KeepBut.set_ | apply keep_drewN | apply keep_drew | apply keep_alloc) | exact HK.out)) hk (.inl rfl)); have n1_ := Aside0.mk (hb); have n2_ := Aside0.mk (hi); clear HK; clear HB; clear HI0; have HK := n0_; have HB := n1_; have HI0 := n2_; clear n0_ n1_ n2_; (try clear hb); (try clear hb2); (try clear hk); (try clear hi)))
                                repeat (go_quiet (first | (go_at_call 36; (with_reducible refine (filter_parser_stop.calls g x1000_3 x1001_3 x1002_3 t152 t161 t162 t163 w0 _ ?side1 ?side2 A43.out).mono ?_); (case side1 => repeat (first | (with_reducible first | exact HI0.out | apply IsS74.alloc | apply IsS74.drewN | apply IsS74.drew | apply IsS74.set_0 | apply IsS74.set_1 | apply IsS74.set_2) | exact HI0.out)); (case side2 => repeat (first | (with_reducible first | exact HB.out | apply below_alloc | apply pw_below_drewN | apply below_drew1 | refine below_set ?_ (IsS74.ge HI0.out)) | exact HB.out)); rintro e w45 ⟨rfl, hi, hb, hk⟩; have n0_ := Aside0.mk (KeepBut.trans (by repeat (first | (with_reducible first | exact HK.out | apply KeepBut.set_ | apply keep_drewN | apply keep_drew | apply keep_alloc) | exact HK.out)) hk (.inl rfl)); have n1_ := Aside0.mk (hb); have n2_ := Aside0.mk (hi); clear HK; clear HB; clear HI0; have HK := n0_; have HB := n1_; have HI0 := n2_; clear n0_ n1_ n2_; (try clear hb); (try clear hb2); (try clear hk); (try clear hi))); try go_wp2_with (first | (go_at_call 36; (with_reducible refine (filter_parser_stop.calls g x1000_3 x1001_3 x1002_3 t152 t161 t162 t163 w0 _ ?side1 ?side2 A43.out).mono ?_); (case side1 => repeat (first | (with_reducible first | exact HI0.out | apply IsS74.alloc | apply IsS74.drewN | apply IsS74.drew | apply IsS74.set_0 | apply IsS74.set_1 | apply IsS74.set_2) | exact HI0.out)); (case side2 => repeat (first | (with_reducible first | exact HB.out | apply below_alloc | apply pw_below_drewN | apply below_drew1 | refine below_set ?_ (IsS74.ge HI0.out)) | exact HB.out)); rintro e w45 ⟨rfl, hi, hb, hk⟩; have n0_ := Aside0.mk (KeepBut.trans (by repeat (first | (with_reducible first | exact HK.out | apply KeepBut.set_ | apply keep_drewN | apply keep_drew | apply keep_alloc) | exact HK.out)) hk (.inl rfl)); have n1_ := Aside0.mk (hb); have n2_ := Aside0.mk (hi); clear HK; clear HB; clear HI0; have HK := n0_; have HB := n1_; have HI0 := n2_; clear n0_ n1_ n2_; (try clear hb); (try clear hb2); (try clear hk); (try clear hi))))
                                go_ret
                                exact ⟨by first | rfl | (simp [errW_none, errW_some] <;> rfl) | (simp [*, errW_none, errW_some] <;> rfl), by repeat (first | (with_reducible first | exact HI0.out | apply IsS74.alloc | apply IsS74.drewN | apply IsS74.drew | apply IsS74.set_0 | apply IsS74.set_1 | apply IsS74.set_2) | exact HI0.out), by repeat (first | (with_reducible first | exact HB.out | apply below_alloc | apply pw_below_drewN | apply below_drew1 | refine below_set ?_ (IsS74.ge HI0.out)) | exact HB.out), by repeat (first | (with_reducible first | exact HK.out | apply KeepBut.set_ | apply keep_drewN | apply keep_drew | apply keep_alloc) | exact HK.out)⟩
                              · rw [if_neg c42] at H
                                have c42b0 : ((bt x1000_3 x1001_13) == 48) = false := beq_eq_false_iff_ne.mpr c42
                                have c42b1 : ((bt x1000_3 x1001_13) != 48) = true := bne_iff_ne.mpr c42
                                by_cases c46 : x4_13 < 0
                                · rw [if_pos c46] at H
                                  have c46b0 : decide (x4_13 < 0) = true := decide_eq_true c46
                                  clear c46
                                  by_cases c47 : x5_3 = 0
                                  · rw [if_pos c47] at H
                                    have c47b0 : (x5_3 == 0) = true := beq_iff_eq.mpr c47
                                    have c47b1 : (x5_3 != 0) = false := bne_eq_false_iff_eq.mpr c47
                                    clear c47
                                    replace H := Option.bind_eq_some_iff.mp H
                                    obtain ⟨⟨t164, t165, t166⟩, A480, H⟩ := H
                                    replace H : (some (wrap64 (x4_13 * x5_3), t164, t165, t166)) = some (r1, r2, r3, r4) := H
                                    have A48 := Aside0.mk A480
                                    clear A480
                                    simp only [Option.some.injEq, Prod.mk.injEq] at H
                                    obtain ⟨rfl, rfl, rfl, rfl⟩ := H
                                    obtain ⟨HGz49, hgz49⟩ := HI0.out
                                    have hcz49_0 := cellS74_0 HGz49
                                    have hcz49_1 := cellS74_1 HGz49
                                    have hcz49_2 := cellS74_2 HGz49
                                    have hfz49_0 := blk_frozen HGz49 0
                                    have hfz49_1 := blk_frozen HGz49 1
                                    have hfz49_2 := blk_frozen HGz49 2
                                    clear HGz49 hgz49
                                    have p41 : 0 ≤ (x1001_13 : Int) := of_decide_eq_true (by first | (with_reducible assumption) | assumption)
                                    have q41 : x1001_13 < (x1000_3.size : Int) := of_decide_eq_true (by first | (with_reducible assumption) | assumption)
                                    have hx41 := bt_at x1000_3 x1001_13
                                    replace p41 := eq_true p41
                                    replace q41 := eq_true q41
                                    go_wp2_with (first | (go_at_call 36; (with_reducible refine (filter_parser_stop.calls g x1000_3 x1001_3 x1002_3 t152 t164 t165 t166 w0 _ ?side1 ?side2 A48.out).mono ?_); (case side1 => repeat (first | (with_reducible first | exact HI0.out | apply IsS74.alloc | apply IsS74.drewN | apply IsS74.drew | apply IsS74.set_0 | apply IsS74.set_1 | apply IsS74.set_2) | exact HI0.out)); (case side2 => repeat (first | (with_reducible first | exact HB.out | apply below_alloc | apply pw_below_drewN | apply below_drew1 | refine below_set ?_ (IsS74.ge HI0.out)) | exact HB.out)); rintro e w50 ⟨rfl, hi, hb, hk⟩; have n0_ := Aside0.mk (KeepBut.trans (by repeat (first | (with_reducible first | exact HK.out | apply KeepBut.set_ | apply keep_drewN | apply keep_drew | apply keep_alloc) | exact HK.out)) hk (.inl rfl)); have n1_ := Aside0.mk (hb); have n2_ := Aside0.mk (hi); clear HK; clear HB; clear HI0; have HK := n0_; have HB := n1_; have HI0 := n2_; clear n0_ n1_ n2_; (try clear hb); (try clear hb2); (try clear hk); (try clear hi)))
                                    repeat (go_quiet (first | (go_at_call 36; (with_reducible refine (filter_parser_stop.calls g x1000_3 x1001_3 x1002_3 t152 t164 t165 t166 w0 _ ?side1 ?side2 A48.out).mono ?_); (case side1 => repeat (first | (with_reducible first | exact HI0.out | apply IsS74.alloc | apply IsS74.drewN | apply IsS74.drew | apply IsS74.set_0 | apply IsS74.set_1 | apply IsS74.set_2) | exact HI0.out)); (case side2 => repeat (first | (with_reducible first | exact HB.out | apply below_alloc | apply pw_below_drewN | apply below_drew1 | refine below_set ?_ (IsS74.ge HI0.out)) | exact HB.out)); rintro e w50 ⟨rfl, hi, hb, hk⟩; have n0_ := Aside0.mk (KeepBut.trans (by repeat (first | (with_reducible first | exact HK.out | apply KeepBut.set_ | apply keep_drewN | apply keep_drew | apply keep_alloc) | exact HK.out)) hk (.inl rfl)); have n1_ := Aside0.mk (hb); have n2_ := Aside0.mk (hi); clear HK; clear HB; clear HI0; have HK := n0_; have HB := n1_; have HI0 := n2_; clear n0_ n1_ n2_; (try clear hb); (try clear hb2); (try clear hk); (try clear hi))); try go_wp2_with (first | (go_at_call 36; (with_reducible refine (filter_parser_stop.calls g x1000_3 x1001_3 x1002_3 t152 t164 t165 t166 w0 _ ?side1 ?side2 A48.out).mono ?_); (case side1 => repeat (first | (with_reducible first | exact HI0.out | apply IsS74.alloc | apply IsS74.drewN | apply IsS74.drew | apply IsS74.set_0 | apply IsS74.set_1 | apply IsS74.set_2) | exact HI0.out)); (case side2 => repeat (first | (with_reducible first | exact HB.out | apply below_alloc | apply pw_below_drewN | apply below_drew1 | refine below_set ?_ (IsS74.ge HI0.out)) | exact HB.out)); rintro e w50 ⟨rfl, hi, hb, hk⟩; have n0_ := Aside0.mk (KeepBut.trans (by repeat (first | (with_reducible first | exact HK.out | apply KeepBut.set_ | apply keep_drewN | apply keep_drew | apply keep_alloc) | exact HK.out)) hk (.inl rfl)); have n1_ := Aside0.mk (hb); have n2_ := Aside0.mk (hi); clear HK; clear HB; clear HI0; have HK := n0_; have HB := n1_; have HI0 := n2_; clear n0_ n1_ n2_; (try clear hb); (try clear hb2); (try clear hk); (try clear hi))))
                                    go_ret
                                    exact ⟨by first | rfl | (simp [errW_none, errW_some] <;> rfl) | (simp [*, errW_none, errW_some] <;> rfl), by repeat (first | (with_reducible first | exact HI0.out | apply IsS74.alloc | apply IsS74.drewN | apply IsS74.drew | apply IsS74.set_0 | apply IsS74.set_1 | apply IsS74.set_2) | exact HI0.out), by repeat (first | (with_reducible first | exact HB.out | apply below_alloc | apply pw_below_drewN | apply below_drew1 | refine below_set ?_ (IsS74.ge HI0.out)) | exact HB.out), by repeat (first | (with_reducible first | exact HK.out | apply KeepBut.set_ | apply keep_drewN | apply keep_drew | apply keep_alloc) | exact HK.out)⟩
                                  · rw [if_neg c47] at H
                                    have c47b0 : (x5_3 == 0) = false := beq_eq_false_iff_ne.mpr c47
                                    have c47b1 : (x5_3 != 0) = true := bne_iff_ne.mpr c47
                                    simp only [Option.some.injEq, Prod.mk.injEq] at H
                                    obtain ⟨rfl, rfl, rfl, rfl⟩ := H
                                    obtain ⟨HGz51, hgz51⟩ := HI0.out
                                    have hcz51_0 := cellS74_0 HGz51
                                    have hcz51_1 := cellS74_1 HGz51
                                    have hcz51_2 := cellS74_2 HGz51
                                    have hfz51_0 := blk_frozen HGz51 0
                                    have hfz51_1 := blk_frozen HGz51 1
                                    have hfz51_2 := blk_frozen HGz51 2
                                    clear HGz51 hgz51
                                    have p41 : 0 ≤ (x1001_13 : Int) := of_decide_eq_true (by first | (with_reducible assumption) | assumption)
                                    have q41 : x1001_13 < (x1000_3.size : Int) := of_decide_eq_true (by first | (with_reducible assumption) | assumption)
                                    have hx41 := bt_at x1000_3 x1001_13
                                    replace p41 := eq_true p41
                                    replace q41 := eq_true q41
                                    go_wp2
                                    repeat (go_quiet (fail); try go_wp2)
                                    go_ret
                                    exact ⟨by first | rfl | (simp [errW_none, errW_some] <;> rfl) | (simp [*, errW_none, errW_some] <;> rfl), by repeat (first | (with_reducible first | exact HI0.out | apply IsS74.alloc | apply IsS74.drewN | apply IsS74.drew | apply IsS74.set_0 | apply IsS74.set_1 | apply IsS74.set_2) | exact HI0.out), by repeat (first | (with_reducible first | exact HB.out | apply below_alloc | apply pw_below_drewN | apply below_drew1 | refine below_set ?_ (IsS74.ge HI0.out)) | exact HB.out), by repeat (first | (with_reducible first | exact HK.out | apply KeepBut.set_ | apply keep_drewN | apply keep_drew | apply keep_alloc) | exact HK.out)⟩
                                · rw [if_neg c46] at H
                                  have c46b0 : decide (x4_13 < 0) = false := decide_eq_false c46
                                  clear c46
                                  simp only [Option.some.injEq, Prod.mk.injEq] at H
                                  obtain ⟨rfl, rfl, rfl, rfl⟩ := H
                                  obtain ⟨HGz52, hgz52⟩ := HI0.out
                                  have hcz52_0 := cellS74_0 HGz52
                                  have hcz52_1 := cellS74_1 HGz52
                                  have hcz52_2 := cellS74_2 HGz52
                                  have hfz52_0 := blk_frozen HGz52 0
                                  have hfz52_1 := blk_frozen HGz52 1
                                  have hfz52_2 := blk_frozen HGz52 2
                                  clear HGz52 hgz52
                                  have p41 : 0 ≤ (x1001_13 : Int) := of_decide_eq_true (by first | (with_reducible assumption) | assumption)
                                  have q41 : x1001_13 < (x1000_3.size : Int) := of_decide_eq_true (by first | (with_reducible assumption) | assumption)
                                  have hx41 := bt_at x1000_3 x1001_13
                                  replace p41 := eq_true p41
                                  replace q41 := eq_true q41
                                  go_wp2
                                  repeat (go_quiet (fail); try go_wp2)
                                  go_ret
                                  exact ⟨by first | rfl | (simp [errW_none, errW_some] <;> rfl) | (simp [*, errW_none, errW_some] <;> rfl), by repeat (first | (with_reducible first | exact HI0.out | apply IsS74.alloc | apply IsS74.drewN | apply IsS74.drew | apply IsS74.set_0 | apply IsS74.set_1 | apply IsS74.set_2) | exact HI0.out), by repeat (first | (with_reducible first | exact HB.out | apply below_alloc | apply pw_below_drewN | apply below_drew1 | refine below_set ?_ (IsS74.ge HI0.out)) | exact HB.out), by repeat (first | (with_reducible first | exact HK.out | apply KeepBut.set_ | apply keep_drewN | apply keep_drew | apply keep_alloc) | exact HK.out)⟩
                            · rw [if_neg c40] at H
                              exact absurd H (by simp)
                          · rw [if_neg c39] at H
                            exact absurd H (by simp)
                        · rw [if_neg c38] at H
                          have c38b0 : decide (1 < (wrap64 (x1001_3 - x1001_13))) = false := decide_eq_false c38
                          clear c38
                          by_cases c53 : x4_13 < 0
                          · rw [if_pos c53] at H
                            have c53b0 : decide (x4_13 < 0) = true := decide_eq_true c53
                            clear c53
                            by_cases c54 : x5_3 = 0
                            · rw [if_pos c54] at H
                              have c54b0 : (x5_3 == 0) = true := beq_iff_eq.mpr c54
                              have c54b1 : (x5_3 != 0) = false := bne_eq_false_iff_eq.mpr c54
                              clear c54
                              replace H := Option.bind_eq_some_iff.mp H
                              obtain ⟨⟨t167, t168, t169⟩, A550, H⟩ := H
                              replace H : (some (wrap64 (x4_13 * x5_3), t167, t168, t169)) = some (r1, r2, r3, r4) := H
                              have A55 := Aside0.mk A550
                              clear A550
                              simp only [Option.some.injEq, Prod.mk.injEq] at H
                              obtain ⟨rfl, rfl, rfl, rfl⟩ := H
                              obtain ⟨HGz56, hgz56⟩ := HI0.out
                              have hcz56_0 := cellS74_0 HGz56
                              have hcz56_1 := cellS74_1 HGz56
                              have hcz56_2 := cellS74_2 HGz56
                              have hfz56_0 := blk_frozen HGz56 0
                              have hfz56_1 := blk_frozen HGz56 1
                              have hfz56_2 := blk_frozen HGz56 2
                              clear HGz56 hgz56
                              go_wp2_with (first | (go_at_call 36; (with_reducible refine (filter_parser_stop.calls g x1000_3 x1001_3 x1002_3 t152 t167 t168 t169 w0 _ ?side1 ?side2 A55.out).mono ?_); (case side1 => repeat (first | (with_reducible first | exact HI0.out | apply IsS74.alloc | apply IsS74.drewN | apply IsS74.drew | apply IsS74.set_0 | apply IsS74.set_1 | apply IsS74.set_2) | exact HI0.out)); (case side2 => repeat (first | (with_reducible first | exact HB.out | apply below_alloc | apply pw_below_drewN | apply below_drew1 | refine below_set ?_ (IsS74.ge HI0.out)) | exact HB.out)); rintro e w57 ⟨rfl, hi, hb, hk⟩; have n0_ := Aside0.mk (KeepBut.trans (by repeat (first | (with_reducible first | exact HK.out | apply KeepBut.set_ | apply keep_drewN | apply keep_drew | apply keep_alloc) | exact HK.out)) hk (.inl rfl)); have n1_ := Aside0.mk (hb); have n2_ := Aside0.mk (hi); clear HK; clear HB; clear HI0; have HK := n0_; have HB := n1_; have HI0 := n2_; clear n0_ n1_ n2_; (try clear hb); (try clear hb2); (try clear hk); (try clear hi)))
                              repeat (go_quiet (first | (go_at_call 36; (with_reducible refine (filter_parser_stop.calls g x1000_3 x1001_3 x1002_3 t152 t167 t168 t169 w0 _ ?side1 ?side2 A55.out).mono ?_); (case side1 => repeat (first | (with_reducible first | exact HI0.out | apply IsS74.alloc | apply IsS74.drewN | apply IsS74.drew | apply IsS74.set_0 | apply IsS74.set_1 | apply IsS74.set_2) | exact HI0.out)); (case side2 => repeat (first | (with_reducible first | exact HB.out | apply below_alloc | apply pw_below_drewN | apply below_drew1 | refine below_set ?_ (IsS74.ge HI0.out)) | exact HB.out)); rintro e w57 ⟨rfl, hi, hb, hk⟩; have n0_ := Aside0.mk (KeepBut.trans (by repeat (first | (with_reducible first | exact HK.out | apply KeepBut.set_ | apply keep_drewN | apply keep_drew | apply keep_alloc) | exact HK.out)) hk (.inl rfl)); have n1_ := Aside0.mk (hb); have n2_ := Aside0.mk (hi); clear HK; clear HB; clear HI0; have HK := n0_; have HB := n1_; have HI0 := n2_; clear n0_ n1_ n2_; (try clear hb); (try clear hb2); (try clear hk); (try clear hi))); try go_wp2_with (first | (go_at_call 36; (with_reducible refine (filter_parser_stop.calls g x1000_3 x1001_3 x1002_3 t152 t167 t168 t169 w0 _ ?side1 ?side2 A55.out).mono ?_); (case side1 => repeat (first | (with_reducible first | exact HI0.out | apply IsS74.alloc | apply IsS74.drewN | apply IsS74.drew | apply IsS74.set_0 | apply IsS74.set_1 | apply IsS74.set_2) | exact HI0.out)); (case side2 => repeat (first | (with_reducible first | exact HB.out | apply below_alloc | apply pw_below_drewN | apply below_drew1 | refine below_set ?_ (IsS74.ge HI0.out)) | exact HB.out)); rintro e w57 ⟨rfl, hi, hb, hk⟩; have n0_ := Aside0.mk (KeepBut.trans (by repeat (first | (with_reducible first | exact HK.out | apply KeepBut.set_ | apply keep_drewN | apply keep_drew | apply keep_alloc) | exact HK.out)) hk (.inl rfl)); have n1_ := Aside0.mk (hb); have n2_ := Aside0.mk (hi); clear HK; clear HB; clear HI0; have HK := n0_; have HB := n1_; have HI0 := n2_; clear n0_ n1_ n2_; (try clear hb); (try clear hb2); (try clear hk); (try clear hi))))
                              go_ret
                              exact ⟨by first | rfl | (simp [errW_none, errW_some] <;> rfl) | (simp [*, errW_none, errW_some] <;> rfl), by repeat (first | (with_reducible first | exact HI0.out | apply IsS74.alloc | apply IsS74.drewN | apply IsS74.drew | apply IsS74.set_0 | apply IsS74.set_1 | apply IsS74.set_2) | exact HI0.out), by repeat (first | (with_reducible first | exact HB.out | apply below_alloc | apply pw_below_drewN | apply below_drew1 | refine below_set ?_ (IsS74.ge HI0.out)) | exact HB.out), by repeat (first | (with_reducible first | exact HK.out | apply KeepBut.set_ | apply keep_drewN | apply keep_drew | apply keep_alloc) | exact HK.out)⟩
                            · rw [if_neg c54] at H
                              have c54b0 : (x5_3 == 0) = false := beq_eq_false_iff_ne.mpr c54
                              have c54b1 : (x5_3 != 0) = true := bne_iff_ne.mpr c54
                              simp only [Option.some.injEq, Prod.mk.injEq] at H
                              obtain ⟨rfl, rfl, rfl, rfl⟩ := H
                              obtain ⟨HGz58, hgz58⟩ := HI0.out
                              have hcz58_0 := cellS74_0 HGz58
                              have hcz58_1 := cellS74_1 HGz58
                              have hcz58_2 := cellS74_2 HGz58
                              have hfz58_0 := blk_frozen HGz58 0
                              have hfz58_1 := blk_frozen HGz58 1
                              have hfz58_2 := blk_frozen HGz58 2
                              clear HGz58 hgz58
                              go_wp2
                              repeat (go_quiet (fail); try go_wp2)
                              go_ret
                              exact ⟨by first | rfl | (simp [errW_none, errW_some] <;> rfl) | (simp [*, errW_none, errW_some] <;> rfl), by repeat (first | (with_reducible first | exact HI0.out | apply IsS74.alloc | apply IsS74.drewN | apply IsS74.drew | apply IsS74.set_0 | apply IsS74.set_1 | apply IsS74.set_2) | exact HI0.out), by repeat (first | (with_reducible first | exact HB.out | apply below_alloc | apply pw_below_drewN | apply below_drew1 | refine below_set ?_ (IsS74.ge HI0.out)) | exact HB.out), by repeat (first | (with_reducible first | exact HK.out | apply KeepBut.set_ | apply keep_drewN | apply keep_drew | apply keep_alloc) | exact HK.out)⟩
                          · rw [if_neg c53] at H
                            have c53b0 : decide (x4_13 < 0) = false := decide_eq_false c53
                            clear c53
                            simp only [Option.some.injEq, Prod.mk.injEq] at H
                            obtain ⟨rfl, rfl, rfl, rfl⟩ := H
                            obtain ⟨HGz59, hgz59⟩ := HI0.out
                            have hcz59_0 := cellS74_0 HGz59
                            have hcz59_1 := cellS74_1 HGz59
                            have hcz59_2 := cellS74_2 HGz59
                            have hfz59_0 := blk_frozen HGz59 0
                            have hfz59_1 := blk_frozen HGz59 1
                            have hfz59_2 := blk_frozen HGz59 2
                            clear HGz59 hgz59
                            go_wp2
                            repeat (go_quiet (fail); try go_wp2)
                            go_ret
                            exact ⟨by first | rfl | (simp [errW_none, errW_some] <;> rfl) | (simp [*, errW_none, errW_some] <;> rfl), by repeat (first | (with_reducible first | exact HI0.out | apply IsS74.alloc | apply IsS74.drewN | apply IsS74.drew | apply IsS74.set_0 | apply IsS74.set_1 | apply IsS74.set_2) | exact HI0.out), by repeat (first | (with_reducible first | exact HB.out | apply below_alloc | apply pw_below_drewN | apply below_drew1 | refine below_set ?_ (IsS74.ge HI0.out)) | exact HB.out), by repeat (first | (with_reducible first | exact HK.out | apply KeepBut.set_ | apply keep_drewN | apply keep_drew | apply keep_alloc) | exact HK.out)⟩

-- NOT PRINTED: function 33 (filter_parser_pred)

-- NOT PRINTED: function 13 (filter_Parse)

-- NOT PRINTED: function 37 (reflectlite_TypeOf)

-- NOT PRINTED: function 38 (errors_is)

-- NOT PRINTED: function 16 (errors_Is)

-- NOT PRINTED: function 58 (reflectlite_ValueOf)

-- NOT PRINTED: function 59 (reflectlite_Value_Type)

-- NOT PRINTED: function 60 (reflectlite_Value_IsNil)

-- NOT PRINTED: function 81 (reflectlite_Value_Elem)

-- NOT PRINTED: function 82 (reflectlite_Value_Set)

-- NOT PRINTED: function 61 (errors_as)

-- NOT PRINTED: function 32 (errors_As)

-- NOT PRINTED: function 12 (wigwaglaw06_awake)

end Go.Proofs.YthaapijjjgkacaaDoor.PFilterReads
end
section
/-
  Contracts of the filter parser's methods, each in terms of the plain functions of Plain: from a state to a state. Conditions: the parser's block, the text at most 1000 bytes.
-/
namespace Go.Proofs.YthaapijjjgkacaaDoor.Mine
open Go.RowKit Go.Proofs.YthaapijjjgkacaaDoorW.PrintWords Go.Proofs.YthaapijjjgkacaaDoorW.PrintLast Go.Proofs.YthaapijjjgkacaaDoorW.PrintMore
open Go.Proofs.YthaapijjjgkacaaDoor.PFilterReads

/-! ### places and what is left -/
def bytes (s : ByteArray) : List UInt8 := s.data.toList
theorem bytes_len (s : ByteArray) : (bytes s).length = s.size := by simp [bytes]
theorem suf_drop {s : ByteArray} {l : List UInt8} (h : l <:+ bytes s) : l = dropB s (s.size - l.length) := by
  obtain ⟨t, ht⟩ := h
  have h1 : (bytes s).length = t.length + l.length := by rw [← ht]; simp
  rw [bytes_len] at h1
  unfold dropB
  rw [show s.data.toList = t ++ l from ht.symm, show s.size - l.length = t.length by omega]
  simp
theorem drop_suf (s : ByteArray) (i : Nat) : dropB s i <:+ bytes s := List.drop_suffix _ _
theorem bt_cons {s : ByteArray} {i : Nat} {c : UInt8} {r : List UInt8} (h : dropB s i = c :: r) : i < s.size ∧ bt s (i : Int) = (c.toNat : Int) ∧ dropB s (i + 1) = r := by
  have h1 : i < s.size := by
    rcases Nat.lt_or_ge i s.size with h1 | h1
    · exact h1
    · rw [dropB_nil h1] at h; cases h
  rw [dropB_cons h1] at h
  injection h with h2 h3
  exact ⟨h1, by simp [bt, h1, h2], h3⟩
theorem wrap_in {x : Int} (h0 : -9223372036854775808 ≤ x) (h1 : x ≤ 9223372036854775807) : wrap64 x = x := by unfold wrap64; omega

/-! ### what the printed functions come to -/
theorem blanks_l0 (s : ByteArray) (hs : s.size ≤ 1000) (d : Nat) : ∀ (k i : Nat), i ≤ s.size → s.size - i = d → d < k →
    filter_parser_blanks.l0 k s (i : Int) (-1) = some (s, ((s.size - (skip (dropB s i)).length : Nat) : Int), -1) := by
  induction d with
  | zero =>
    intro k i h0 hd hk
    obtain ⟨k, rfl⟩ : ∃ m, k = m + 1 := ⟨k - 1, by omega⟩
    simp only [filter_parser_blanks.l0]
    rw [if_pos (by omega), if_neg (by omega), dropB_nil (by omega)]
    simp [skip]
    omega
  | succ d ih =>
    intro k i h0 hd hk
    obtain ⟨k, rfl⟩ : ∃ m, k = m + 1 := ⟨k - 1, by omega⟩
    have hlt : i < s.size := by omega
    have hc := dropB_cons hlt
    obtain ⟨h1, h2, h3⟩ := bt_cons hc
    simp only [filter_parser_blanks.l0]
    rw [if_pos (by omega), if_pos (by omega), if_pos (by omega), h2]
    by_cases h32 : s[i] = 32
    · rw [if_pos (by rw [h32]; rfl), wrap_in (by omega) (by omega), show (i : Int) + 1 = ((i + 1 : Nat) : Int) by omega, ih k (i + 1) (by omega) (by omega) (by omega), hc]
      simp [skip, h32]
    · have hn : ¬ ((s[i].toNat : Int) = 32) := by
        intro h
        exact h32 (UInt8.toNat_inj.mp (by simpa using (by omega : s[i].toNat = 32)))
      rw [if_neg hn, hc, skip, if_neg h32, ← hc, dropB_len]
      congr 3
      omega
theorem blanks_f {s : ByteArray} (hs : s.size ≤ 1000) {i : Nat} (hi : i ≤ s.size) : filter_parser_blanks.f (s.size + 1) s (i : Int) (-1) = some (s, ((s.size - (skip (dropB s i)).length : Nat) : Int), -1) :=
  blanks_l0 s hs (s.size - i) _ i hi rfl (by omega)
theorem blanks_bad {s : ByteArray} (i : Int) {b : Int} (hb : 0 ≤ b) : filter_parser_blanks.f 1 s i b = some (s, i, b) := by
  simp only [filter_parser_blanks.f, filter_parser_blanks.l0]
  rw [if_neg (by omega)]

/-! ### the state of a parser in memory -/
def badI (s : ByteArray) : Option Nat → Int
  | none => -1
  | some n => ((s.size - n : Nat) : Int)
def IsP (w0 w : World) (g : Nat) (s : ByteArray) (st : St) : Prop := st.ok (bytes s) ∧ IsS74 w0 w g s ((s.size - st.l.length : Nat) : Int) (badI s st.bad)
/-- A method's post: what it hands back, the state behind it, and that nothing else has turned. -/
def PostP (w0 w : World) (g : Nat) (s : ByteArray) (v : Value) (st : St) (e : Ending) (w' : World) : Prop :=
  e = .returned v ∧ IsP w0 w' g s st ∧ Below w0.heap.size w0 w' ∧ KeepBut w w' g none
theorem badI_nn (s : ByteArray) (n : Nat) : 0 ≤ badI s (some n) := by simp [badI]
section
variable {g : Nat} {s : ByteArray} {w0 w : World} {st : St}
theorem P_le (h : st.ok (bytes s)) : st.l.length ≤ s.size := by have := h.le; rwa [bytes_len] at this
theorem P_drop (h : st.ok (bytes s)) : dropB s (s.size - st.l.length) = st.l := (suf_drop h.1).symm

theorem blanks_P (hs : s.size ≤ 1000) (hI : IsP w0 w g s st) (hB : Below w0.heap.size w0 w) :
    Calls Tryd.prog 34 #[.pointer (some ⟨g, 0, none⟩)] w (PostP w0 w g s (.tuple #[]) (blanksS st)) := by
  obtain ⟨hok, hi⟩ := hI
  have hok2 := blanksS_ok hok
  obtain ⟨l, b⟩ := st
  cases b with
  | none =>
    have h := blanks_f hs (Nat.sub_le s.size l.length)
    rw [P_drop (st := ⟨l, none⟩) hok] at h
    exact (filter_parser_blanks.calls _ g s _ _ _ _ _ w0 w hi hB h).mono fun e w' ⟨he, h1, h2, h3⟩ => ⟨he, ⟨hok2, h1⟩, h2, h3⟩
  | some n =>
    exact (filter_parser_blanks.calls _ g s _ _ _ _ _ w0 w hi hB (blanks_bad _ (badI_nn s n))).mono fun e w' ⟨he, h1, h2, h3⟩ => ⟨he, ⟨hok2, h1⟩, h2, h3⟩

theorem stop_P (n : Nat) (hn : n ≤ s.size) (hI : IsP w0 w g s st) (hB : Below w0.heap.size w0 w) :
    Calls Tryd.prog 36 #[.pointer (some ⟨g, 0, none⟩), .int .i64 ((s.size - n : Nat) : Int)] w (PostP w0 w g s (.tuple #[]) (stopS st n)) := by
  obtain ⟨hok, hi⟩ := hI
  have hok2 := stopS_ok (n := n) hok (by rw [bytes_len]; exact hn)
  obtain ⟨l, b⟩ := st
  cases b with
  | none =>
    exact (filter_parser_stop.calls g s _ _ ((s.size - n : Nat) : Int) s _ _ w0 w hi hB (by simp only [filter_parser_stop.f]; rw [if_pos (by simp [badI])]; rfl)).mono fun e w' ⟨he, h1, h2, h3⟩ => ⟨he, ⟨hok2, h1⟩, h2, h3⟩
  | some m =>
    exact (filter_parser_stop.calls g s _ _ ((s.size - n : Nat) : Int) s _ _ w0 w hi hB (by simp only [filter_parser_stop.f]; rw [if_neg (by have := badI_nn s m; omega)]; rfl)).mono fun e w' ⟨he, h1, h2, h3⟩ => ⟨he, ⟨hok2, h1⟩, h2, h3⟩

theorem mark_f {s m : ByteArray} (hs : s.size ≤ 1000) (hm : m.size ≤ 1000) {i : Nat} (hi : i ≤ s.size) :
    filter_parser_mark.f (s.size + 1) s (i : Int) (-1) m = some (s, ((s.size - (markL (bytes m) (skip (dropB s i))).l.length : Nat) : Int), badI s (markL (bytes m) (skip (dropB s i))).bad) := by
  have hsuf : skip (dropB s i) <:+ bytes s := (skip_suf _).trans (drop_suf s i)
  have hd := suf_drop hsuf
  have hle : (skip (dropB s i)).length ≤ s.size := by have := hsuf.length_le; rwa [bytes_len] at this
  simp only [filter_parser_mark.f]
  rw [blanks_f hs hi]
  simp only [Option.bind_some]
  generalize skip (dropB s i) = L at hd hle ⊢
  rw [if_neg (by omega), wrap_in (by omega) (by omega)]
  have hml : (bytes m).length = m.size := bytes_len m
  by_cases h1 : (s.size : Int) - ((s.size - L.length : Nat) : Int) < (m.size : Int)
  · have hp : (bytes m).isPrefixOf L = false := by
      rw [Bool.eq_false_iff]
      intro hp
      have := (List.isPrefixOf_iff_prefix.mp hp).length_le
      omega
    rw [if_pos h1]
    simp [markL, hp, filter_parser_stop.f, badI]
  · rw [if_neg h1, if_pos (by omega), wrap_in (by omega) (by omega), if_pos (by omega), if_pos (by omega)]
    have he : (s.extract (((s.size - L.length : Nat) : Int)).toNat ((((s.size - L.length : Nat) : Int) + (m.size : Int))).toNat).toList = L.take m.size := by
      rw [Lib.extract_toList, show (((s.size - L.length : Nat) : Int)).toNat = s.size - L.length by omega, show ((((s.size - L.length : Nat) : Int) + (m.size : Int))).toNat - (s.size - L.length) = m.size by omega]
      exact congrArg _ hd.symm
    rw [he, Lib.toList_data]
    by_cases h2 : L.take m.size = m.data.toList
    · have hp : (bytes m).isPrefixOf L = true := List.isPrefixOf_iff_prefix.mpr (List.prefix_iff_eq_take.mpr (by rw [hml]; exact h2.symm))
      rw [if_pos h2]
      simp [markL, hp, badI, hml]
      omega
    · have hp : (bytes m).isPrefixOf L = false := by
        rw [Bool.eq_false_iff]
        intro hp
        have := List.prefix_iff_eq_take.mp (List.isPrefixOf_iff_prefix.mp hp)
        rw [hml] at this
        exact h2 this.symm
      rw [if_neg h2]
      simp [markL, hp, filter_parser_stop.f, badI]
theorem mark_bad {s m : ByteArray} (i : Int) {b : Int} (hb : 0 ≤ b) : filter_parser_mark.f 1 s i b m = some (s, i, b) := by
  simp only [filter_parser_mark.f]
  rw [blanks_bad i hb]
  simp only [Option.bind_some]
  rw [if_pos hb]
  simp only [filter_parser_stop.f]
  rw [if_neg (by omega)]
  rfl
theorem mark_P (m : ByteArray) (hm : m.size ≤ 1000) (hs : s.size ≤ 1000) (hI : IsP w0 w g s st) (hB : Below w0.heap.size w0 w) :
    Calls Tryd.prog 62 #[.pointer (some ⟨g, 0, none⟩), .string m] w (PostP w0 w g s (.tuple #[]) (markS (bytes m) st)) := by
  obtain ⟨hok, hi⟩ := hI
  have hok2 := markS_ok (m := bytes m) hok
  obtain ⟨l, b⟩ := st
  cases b with
  | none =>
    have h := mark_f hs hm (Nat.sub_le s.size l.length)
    rw [P_drop (st := ⟨l, none⟩) hok] at h
    exact (filter_parser_mark.calls _ g s _ _ _ _ _ _ w0 w hi hB h).mono fun e w' ⟨he, h1, h2, h3⟩ => ⟨he, ⟨hok2, h1⟩, h2, h3⟩
  | some n =>
    exact (filter_parser_mark.calls _ g s _ _ _ _ _ _ w0 w hi hB (mark_bad _ (badI_nn s n))).mono fun e w' ⟨he, h1, h2, h3⟩ => ⟨he, ⟨hok2, h1⟩, h2, h3⟩
end
theorem isLet_u (c : UInt8) : isLet (c.toNat : Int) = isL c := by
  rw [isLet, isL, decide_eq_decide, UInt8.le_iff_toNat_le, UInt8.le_iff_toNat_le, show (97 : UInt8).toNat = 97 from rfl, show (122 : UInt8).toNat = 122 from rfl]
  omega
theorem isDig_u (c : UInt8) : isDig (c.toNat : Int) = isD c := by
  rw [isDig, isD, decide_eq_decide, UInt8.le_iff_toNat_le, UInt8.le_iff_toNat_le, show (48 : UInt8).toNat = 48 from rfl, show (57 : UInt8).toNat = 57 from rfl]
  omega
theorem take_while_len (p : UInt8 → Bool) (r : List UInt8) : r.take (r.takeWhile p).length = r.takeWhile p := (List.prefix_iff_eq_take.mp (List.takeWhile_prefix p)).symm
theorem while_len (p : UInt8 → Bool) (r : List UInt8) : (r.takeWhile p).length + (r.dropWhile p).length = r.length := by
  rw [← List.length_append, List.takeWhile_append_dropWhile]
theorem wordGo_tail (s : ByteArray) (frm : Nat) : ∀ (k at_ : Nat), frm < at_ → at_ ≤ s.size → s.size - at_ ≤ k → wordGo s frm k at_ = at_ + ((dropB s at_).takeWhile isA).length
  | 0, at_, _, h1, h2 => by rw [dropB_nil (by omega)]; simp [wordGo]
  | k + 1, at_, h0, h1, h2 => by
    rcases Nat.lt_or_ge at_ s.size with hlt | hge
    · have hc := dropB_cons hlt
      obtain ⟨_, hb, _⟩ := bt_cons hc
      have hok : wordOk s frm at_ = isA s[at_] := by simp [wordOk, hb, isLet_u, isDig_u, isA, h0]
      unfold wordGo
      rw [hok, hc, List.takeWhile_cons]
      by_cases ha : isA s[at_] = true
      · rw [if_pos ⟨hlt, ha⟩, if_pos ha, wordGo_tail s frm k (at_ + 1) (by omega) (by omega) (by omega)]
        simp
        omega
      · rw [if_neg (fun h => ha h.2), if_neg ha]
        simp
    · unfold wordGo
      rw [if_neg (fun h => by omega), dropB_nil hge]
      simp
theorem wordGo_head (s : ByteArray) (l : List UInt8) (hl : l <:+ bytes s) (hle : l.length ≤ s.size) : wordGo s (s.size - l.length) (s.size - (s.size - l.length)) (s.size - l.length) = s.size - (wordL l).2.l.length := by
  have hd := suf_drop hl
  match l with
  | [] => simp [wordL, wordGo]
  | c :: r =>
    have hlt : s.size - (c :: r).length < s.size := by simp at hle ⊢; omega
    obtain ⟨_, hb, h3⟩ := bt_cons hd.symm
    obtain ⟨k, hk⟩ : ∃ k, s.size - (s.size - (c :: r).length) = k + 1 := ⟨r.length, by simp at hle ⊢; omega⟩
    rw [hk]
    have hok : wordOk s (s.size - (c :: r).length) (s.size - (c :: r).length) = isL c := by simp only [wordOk, hb, isLet_u]; simp
    unfold wordGo
    rw [hok]
    by_cases hc : isL c = true
    · have hw := while_len isA r
      rw [if_pos ⟨hlt, hc⟩, wordGo_tail _ _ _ _ (by omega) (by omega) (by simp at hk hle ⊢; omega), h3]
      simp only [wordL, hc, if_true]
      simp at hle ⊢
      omega
    · rw [if_neg (fun h => hc h.2)]
      simp [wordL, hc]
theorem word_str (s : ByteArray) (l : List UInt8) (hl : l <:+ bytes s) (hle : l.length ≤ s.size) : s.extract (s.size - l.length) (s.size - (wordL l).2.l.length) = ⟨(wordL l).1.toArray⟩ := by
  have hd := suf_drop hl
  have h : (s.extract (s.size - l.length) (s.size - (wordL l).2.l.length)).data.toList = (wordL l).1 := by
    rw [Lib.extract_data, show s.data.toList.drop (s.size - l.length) = l from hd.symm]
    match l with
    | [] => simp [wordL]
    | c :: r =>
      have hw := while_len isA r
      by_cases hc : isL c = true
      · simp only [wordL, hc, if_true]
        rw [show s.size - (r.dropWhile isA).length - (s.size - (c :: r).length) = (r.takeWhile isA).length + 1 by simp at hle ⊢; omega, List.take_succ_cons, take_while_len]
      · simp [wordL, hc]
  rw [← h]
theorem word_state (s : ByteArray) (l : List UInt8) (hle : l.length ≤ s.size) : (if s.size - (wordL l).2.l.length = s.size - l.length then ((s.size - l.length : Nat) : Int) else -1) = badI s (wordL l).2.bad := by
  match l with
  | [] => simp [wordL, badI]
  | c :: r =>
    have hw := while_len isA r
    by_cases hc : isL c = true
    · simp only [wordL, hc, if_true]
      rw [if_neg (by simp at hle ⊢; omega)]
      rfl
    · simp [wordL, hc, badI]

set_option maxHeartbeats 1000000 in
set_option maxRecDepth 100000 in
theorem word_bad (g : Nat) (s : ByteArray) (at0 : Nat) (b : Int) (w0 w : World) (hI : IsS74 w0 w g s at0 b) (hB : Below w0.heap.size w0 w) (h1 : at0 ≤ s.size) (hs : s.size ≤ 1000) (hb : 0 ≤ b) :
    Calls Tryd.prog 35 #[.pointer (some ⟨g, 0, none⟩)] w fun e w' => e = .returned (.string ⟨#[]⟩) ∧ IsS74 w0 w' g s at0 b ∧ Below w0.heap.size w0 w' ∧ KeepBut w w' g none := by
  have HI := Aside0.mk hI
  have HB := Aside0.mk hB
  have HK := Aside0.mk (KeepBut.refl w g none)
  have HS := Aside0.mk hs
  have HX := Aside0.mk (show s.extract at0 at0 = ⟨#[]⟩ by simp; rfl)
  clear hI hB
  go_enter Tryd.func35, Tryd.ntmps35
  go_wp2_with (go_at_call 34; (with_reducible refine (filter_parser_blanks.calls 1 g s at0 b s at0 b w0 _ ?side1 ?side2 (blanks_bad _ hb)).mono ?_); (case side1 => (repeat (first | (with_reducible first | exact HI.out | apply IsS74.alloc | apply IsS74.drewN | apply IsS74.drew | apply IsS74.set_0 | apply IsS74.set_1 | apply IsS74.set_2) | exact HI.out))); (case side2 => (repeat (first | (with_reducible first | exact HB.out | apply below_alloc | apply pw_below_drewN | apply below_drew1 | refine below_set ?_ (IsS74.ge HI.out)) | exact HB.out))); rintro e w2 ⟨rfl, hi, hb, hk⟩; have n0_ := Aside0.mk hi; have n1_ := Aside0.mk hb; have n2_ := Aside0.mk (KeepBut.trans (by (repeat (first | (with_reducible first | exact HK.out | apply KeepBut.set_ | apply keep_drewN | apply keep_drew | apply keep_alloc) | exact HK.out))) hk (Or.inl rfl)); clear HI HB HK hi hb hk; have HI := n0_; have HB := n1_; have HK := n2_; clear n0_ n1_ n2_; obtain ⟨HG, hg⟩ := HI.out; have hc0 := cellS74_0 HG; have hc1 := cellS74_1 HG; have hc2 := cellS74_2 HG; have hf0 := blk_frozen HG 0; have hf1 := blk_frozen HG 1; have hf2 := blk_frozen HG 2; clear HG hg)
  clear hc0 hc1 hc2 hf0 hf1 hf2
  go_loopg [] 1 (fun _ wr => Aside0 (IsS74 w0 wr g s at0 b) ∧ Aside0 (KeepBut w wr g none) ∧ Aside0 (Below w0.heap.size w0 wr))
  case atStart => exact ⟨HI, HK, HB⟩
  case round =>
    clear HI HK HB
    obtain ⟨HI, HK, HB⟩ := hrel
    obtain ⟨HG, hg⟩ := HI.out
    have hc0 := cellS74_0 HG
    have hc1 := cellS74_1 HG
    have hc2 := cellS74_2 HG
    have hf0 := blk_frozen HG 0
    have hf1 := blk_frozen HG 1
    have hf2 := blk_frozen HG 2
    clear HG hg
    have q1 := decide_eq_false (show ¬ b < 0 by omega)
    go_wp2_with fail
    go_quiet (fail)
    go_wp2_with (go_at_call 36; (with_reducible refine (filter_parser_stop.calls g s at0 b at0 s at0 b w0 _ ?side1 ?side2 (by simp only [filter_parser_stop.f]; rw [if_neg (by omega)])).mono ?_); (case side1 => (repeat (first | (with_reducible first | exact HI.out | apply IsS74.alloc | apply IsS74.drewN | apply IsS74.drew | apply IsS74.set_0 | apply IsS74.set_1 | apply IsS74.set_2) | exact HI.out))); (case side2 => (repeat (first | (with_reducible first | exact HB.out | apply below_alloc | apply pw_below_drewN | apply below_drew1 | refine below_set ?_ (IsS74.ge HI.out)) | exact HB.out))); rintro e w2 ⟨rfl, hi, hb, hk⟩; have n0_ := Aside0.mk hi; have n1_ := Aside0.mk hb; have n2_ := Aside0.mk (KeepBut.trans (by (repeat (first | (with_reducible first | exact HK.out | apply KeepBut.set_ | apply keep_drewN | apply keep_drew | apply keep_alloc) | exact HK.out))) hk (Or.inl rfl)); clear HI HB HK hi hb hk; have HI := n0_; have HB := n1_; have HK := n2_; clear n0_ n1_ n2_; obtain ⟨HG, hg⟩ := HI.out; have hc0 := cellS74_0 HG; have hc1 := cellS74_1 HG; have hc2 := cellS74_2 HG; have hf0 := blk_frozen HG 0; have hf1 := blk_frozen HG 1; have hf2 := blk_frozen HG 2; clear HG hg)
    go_quiet (fail)
    go_wp2
    go_ret
    exact ⟨by first | rfl | (rw [HX.out]; rfl) | simp, by (repeat (first | (with_reducible first | exact HI.out | apply IsS74.alloc | apply IsS74.drewN | apply IsS74.drew | apply IsS74.set_0 | apply IsS74.set_1 | apply IsS74.set_2) | exact HI.out)), by (repeat (first | (with_reducible first | exact HB.out | apply below_alloc | apply pw_below_drewN | apply below_drew1 | refine below_set ?_ (IsS74.ge HI.out)) | exact HB.out)), by (repeat (first | (with_reducible first | exact HK.out | apply KeepBut.set_ | apply keep_drewN | apply keep_drew | apply keep_alloc) | exact HK.out))⟩
set_option maxHeartbeats 1000000 in
set_option maxRecDepth 100000 in
theorem text_mbad (k : Nat) (g : Nat) (s : ByteArray) (at0 at1 : Nat) (b0 : Int) {b : Int} (w0 w : World) (hI : IsS74 w0 w g s at0 b0) (hB : Below w0.heap.size w0 w) (hm : filter_parser_mark.f k s at0 b0 (⟨#[34]⟩ : ByteArray) = some (s, (at1 : Int), b)) (hb : 0 ≤ b) :
    Calls Tryd.prog 63 #[.pointer (some ⟨g, 0, none⟩)] w fun e w' => e = .returned (.string ⟨#[]⟩) ∧ IsS74 w0 w' g s at1 b ∧ Below w0.heap.size w0 w' ∧ KeepBut w w' g none := by
  have HM := Aside0.mk hm
  have HI := Aside0.mk hI
  have HB := Aside0.mk hB
  have HK := Aside0.mk (KeepBut.refl w g none)
  clear hI hB hm
  go_enter Tryd.func63, Tryd.ntmps63
  go_wp2_with (go_at_call 62; (with_reducible refine (filter_parser_mark.calls k g s at0 b0 (⟨#[34]⟩ : ByteArray) s at1 b w0 _ ?side1 ?side2 HM.out).mono ?_); (case side1 => (repeat (first | (with_reducible first | exact HI.out | apply IsS74.alloc | apply IsS74.drewN | apply IsS74.drew | apply IsS74.set_0 | apply IsS74.set_1 | apply IsS74.set_2) | exact HI.out))); (case side2 => (repeat (first | (with_reducible first | exact HB.out | apply below_alloc | apply pw_below_drewN | apply below_drew1 | refine below_set ?_ (IsS74.ge HI.out)) | exact HB.out))); rintro e w2 ⟨rfl, hi, hb, hk⟩; have n0_ := Aside0.mk hi; have n1_ := Aside0.mk hb; have n2_ := Aside0.mk (KeepBut.trans (by (repeat (first | (with_reducible first | exact HK.out | apply KeepBut.set_ | apply keep_drewN | apply keep_drew | apply keep_alloc) | exact HK.out))) hk (Or.inl rfl)); clear HI HB HK hi hb hk; have HI := n0_; have HB := n1_; have HK := n2_; clear n0_ n1_ n2_; obtain ⟨HG, hg⟩ := HI.out; have hc0 := cellS74_0 HG; have hc1 := cellS74_1 HG; have hc2 := cellS74_2 HG; have hf0 := blk_frozen HG 0; have hf1 := blk_frozen HG 1; have hf2 := blk_frozen HG 2; clear HG hg)
  clear hc0 hc1 hc2 hf0 hf1 hf2
  go_loopg [] 1 (fun _ wr => Aside0 (IsS74 w0 wr g s at1 b) ∧ Aside0 (KeepBut w wr g none) ∧ Aside0 (Below w0.heap.size w0 wr))
  case atStart => exact ⟨HI, HK, HB⟩
  case round =>
    clear HI HK HB
    obtain ⟨HI, HK, HB⟩ := hrel
    obtain ⟨HG, hg⟩ := HI.out
    have hc0 := cellS74_0 HG
    have hc1 := cellS74_1 HG
    have hc2 := cellS74_2 HG
    have hf0 := blk_frozen HG 0
    have hf1 := blk_frozen HG 1
    have hf2 := blk_frozen HG 2
    clear HG hg
    have q1 := decide_eq_false (show ¬ b < 0 by omega)
    go_wp2
    go_ret
    exact ⟨by first | rfl | simp, by (repeat (first | (with_reducible first | exact HI.out | apply IsS74.alloc | apply IsS74.drewN | apply IsS74.drew | apply IsS74.set_0 | apply IsS74.set_1 | apply IsS74.set_2) | exact HI.out)), by (repeat (first | (with_reducible first | exact HB.out | apply below_alloc | apply pw_below_drewN | apply below_drew1 | refine below_set ?_ (IsS74.ge HI.out)) | exact HB.out)), by (repeat (first | (with_reducible first | exact HK.out | apply KeepBut.set_ | apply keep_drewN | apply keep_drew | apply keep_alloc) | exact HK.out))⟩

section
variable {g : Nat} {s : ByteArray} {w0 w : World} {st : St}
theorem word_P (hs : s.size ≤ 1000) (hI : IsP w0 w g s st) (hB : Below w0.heap.size w0 w) :
    Calls Tryd.prog 35 #[.pointer (some ⟨g, 0, none⟩)] w (PostP w0 w g s (.string ⟨(wordS st).1.toArray⟩) (wordS st).2) := by
  obtain ⟨hok, hi⟩ := hI
  have hok2 := wordS_ok hok
  have hle := P_le hok
  obtain ⟨l, b⟩ := st
  cases b with
  | none =>
    have h := blanks_f hs (Nat.sub_le s.size l.length)
    rw [P_drop (st := ⟨l, none⟩) hok] at h
    have hsuf : skip l <:+ bytes s := (skip_suf _).trans hok.1
    have hle2 : (skip l).length ≤ s.size := by have := hsuf.length_le; rwa [bytes_len] at this
    refine (word_calls _ g s _ _ w0 w hi hB hs h (by omega)).mono ?_
    rintro e w' ⟨en, he0, he, h1, h2, h3⟩
    rw [wordGo_head s _ hsuf hle2] at he0
    subst he0
    rw [word_state s _ hle2] at h1
    rw [word_str s _ hsuf hle2] at he
    exact ⟨he, ⟨hok2, h1⟩, h2, h3⟩
  | some n =>
    exact (word_bad g s _ _ w0 w hi hB (by omega) hs (badI_nn s n)).mono fun e w' ⟨he, h1, h2, h3⟩ => ⟨he, ⟨hok2, h1⟩, h2, h3⟩

theorem text_P (hs : s.size ≤ 1000) (hI : IsP w0 w g s st) (hB : Below w0.heap.size w0 w) :
    Calls Tryd.prog 63 #[.pointer (some ⟨g, 0, none⟩)] w (PostP w0 w g s (.string ⟨(textS st).1.toArray⟩) (textS st).2) := by
  obtain ⟨hok, hi⟩ := hI
  have hok2 := textS_ok hok
  have hle := P_le hok
  obtain ⟨l, b⟩ := st
  cases b with
  | some n =>
    have ht : textS ⟨l, some n⟩ = ([], ⟨l, some n⟩) := textS_bad rfl
    rw [ht] at hok2 ⊢
    exact (text_mbad 1 g s _ _ _ w0 w hi hB (mark_bad _ (badI_nn s n)) (badI_nn s n)).mono fun e w' ⟨he, h1, h2, h3⟩ => ⟨he, ⟨hok2, h1⟩, h2, h3⟩
  | none =>
    have h := mark_f (m := (⟨#[34]⟩ : ByteArray)) hs (by decide) (Nat.sub_le s.size l.length)
    rw [P_drop (st := ⟨l, none⟩) hok] at h
    have hm : markL (bytes (⟨#[34]⟩ : ByteArray)) (skip l) = markS [34] ⟨l, none⟩ := rfl
    rw [hm] at h
    have hmok := markS_ok (m := [34]) hok
    cases hb : (markS [34] ⟨l, none⟩).bad with
    | none =>
      have ht : textS ⟨l, none⟩ = textR (textL (markS [34] ⟨l, none⟩).l []) := by unfold textS; rw [hb]
      rw [ht] at hok2 ⊢
      rw [hb] at h
      refine (text_calls _ g s _ _ w0 w hi hB hs h (Nat.sub_le _ _)).mono ?_
      rw [P_drop hmok]
      rintro e w' (⟨t, r, hx, he, h1, h2, h3⟩ | ⟨r, hx, he, h1, h2, h3⟩)
      · rw [hx] at hok2 ⊢
        exact ⟨he, ⟨hok2, h1⟩, h2, h3⟩
      · rw [hx] at hok2 ⊢
        exact ⟨he, ⟨hok2, h1⟩, h2, h3⟩
    | some n =>
      have ht : textS ⟨l, none⟩ = ([], markS [34] ⟨l, none⟩) := by unfold textS; rw [hb]
      rw [ht] at hok2 ⊢
      rw [hb] at h
      refine (text_mbad _ g s _ _ _ w0 w hi hB h (badI_nn s n)).mono fun e w' ⟨he, h1, h2, h3⟩ => ⟨he, ⟨hok2, ?_⟩, h2, h3⟩
      rw [hb]
      exact h1
end
end Go.Proofs.YthaapijjjgkacaaDoor.Mine
end
section
/-
  The contract of the filter parser's number, in terms of Plain. Conditions: the parser's block, the text at most 1000 bytes.
-/
namespace Go.Proofs.YthaapijjjgkacaaDoor.Mine
open Go.RowKit Go.Proofs.YthaapijjjgkacaaDoorW.PrintWords Go.Proofs.YthaapijjjgkacaaDoorW.PrintLast Go.Proofs.YthaapijjjgkacaaDoorW.PrintMore
open Go.Proofs.YthaapijjjgkacaaDoor.PFilterReads

theorem valD_snoc (ds : List UInt8) (c : UInt8) : valD (ds ++ [c]) = 10 * valD ds + ((c.toNat : Int) - 48) := by simp [valD]
theorem valD_go (ds : List UInt8) : ∀ n : Int, 0 ≤ n → (∀ c ∈ ds, isD c = true) → 0 ≤ ds.foldl (fun (n : Int) (c : UInt8) => 10 * n + ((c.toNat : Int) - 48)) n ∧ ds.foldl (fun (n : Int) (c : UInt8) => 10 * n + ((c.toNat : Int) - 48)) n < (n + 1) * 10 ^ ds.length := by
  induction ds with
  | nil => intro n h0 _; simp; omega
  | cons c r ih =>
    intro n h0 h
    have hc := h c (by simp)
    rw [← isDig_u] at hc
    simp only [isDig, decide_eq_true_eq] at hc
    obtain ⟨h1, h2⟩ := ih (10 * n + ((c.toNat : Int) - 48)) (by omega) (fun x hx => h x (by simp [hx]))
    refine ⟨h1, Int.lt_of_lt_of_le h2 ?_⟩
    rw [List.length_cons, Int.pow_succ, Int.mul_comm (10 ^ r.length) 10, ← Int.mul_assoc]
    exact Int.mul_le_mul_of_nonneg_right (by omega) (Int.pow_nonneg (by omega))
theorem valD_bounds (ds : List UInt8) (h : ∀ c ∈ ds, isD c = true) : 0 ≤ valD ds ∧ valD ds < 10 ^ ds.length := by
  have := valD_go ds 0 (by omega) h
  unfold valD
  rw [show ((0 : Int) + 1) * 10 ^ ds.length = 10 ^ ds.length by omega] at this
  exact this
theorem digit_f (c : UInt8) : filter_digit.f (c.toNat : Int) = some (isD c) := by
  rw [← isDig_u]
  unfold filter_digit.f isDig
  split
  · congr 1
    rw [decide_eq_decide]
    omega
  · simp
    omega
theorem stop_f (s : ByteArray) (a b : Int) : filter_parser_stop.f s a (-1) b = some (s, a, b) := by
  unfold filter_parser_stop.f
  rw [if_pos (by omega)]

theorem number_end (s : ByteArray) (first at_ frm : Nat) (sg : Int) (hsg : sg = 1 ∨ sg = -1) (pre : List UInt8) (hs : s.size ≤ 1000) (_hfr : frm ≤ s.size)
    (h0 : first ≤ at_) (h1 : at_ ≤ s.size) (hp : pre.length = at_ - first) (h10 : pre.length ≤ 10) (hd : dropB s first = pre ++ dropB s at_) (hpd : ∀ c ∈ pre, isD c = true)
    (hend : (dropB s at_).takeWhile isD = []) (k : Nat) :
    filter_parser_number.j3 (k + 1) ((s.size - frm : Nat) : Int) sg (valD pre) (first : Int) false s (at_ : Int) (-1)
      = some ((numD frm sg (dropB s first)).1, s, ((s.size - (numD frm sg (dropB s first)).2.l.length : Nat) : Int), badI s (numD frm sg (dropB s first)).2.bad) := by
  have htw : (dropB s first).takeWhile isD = pre := by
    rw [hd, List.takeWhile_append_of_pos hpd, hend, List.append_nil]
  have hdw : (dropB s first).dropWhile isD = dropB s at_ := by
    rw [hd, List.dropWhile_append_of_pos hpd]
    cases hx : dropB s at_ with
    | nil => rfl
    | cons c r =>
      rw [hx] at hend
      have : isD c = false := by
        rw [List.takeWhile_cons] at hend
        cases hc : isD c with
        | true => rw [hc] at hend; simp at hend
        | false => rfl
      rw [List.dropWhile_cons, this]
      simp
  have hb := valD_bounds pre hpd
  have hbig : valD pre ≤ 10000000000 := by
    have h3 : (10 : Int) ^ pre.length ≤ 10 ^ 10 := by exact_mod_cast Nat.pow_le_pow_right (by omega : 0 < 10) h10
    have : (10 : Int) ^ 10 = 10000000000 := by decide
    omega
  have hat : ((s.size - (dropB s at_).length : Nat) : Int) = (at_ : Int) := by rw [dropB_len]; omega
  have hw : wrap64 (sg * valD pre) = sg * valD pre := by
    rcases hsg with rfl | rfl
    · exact wrap_in (by omega) (by omega)
    · exact wrap_in (by omega) (by omega)
  have key : ∀ b : Bool, (b = true ↔ numBad sg (dropB s first)) → (if b = true then (some (sg * valD pre, s, (at_ : Int), ((s.size - frm : Nat) : Int))) else (some (sg * valD pre, s, (at_ : Int), (-1 : Int)))) = some ((numD frm sg (dropB s first)).1, s, ((s.size - (numD frm sg (dropB s first)).2.l.length : Nat) : Int), badI s (numD frm sg (dropB s first)).2.bad) := by
    intro b hbb
    unfold numD
    rw [htw, if_neg (show ¬ 10 < pre.length by omega), hdw]
    by_cases hbad : numBad sg (dropB s first)
    · rw [if_pos (hbb.mpr hbad), if_pos hbad]
      simp only [hat]
      rfl
    · rw [if_neg (fun h => hbad (hbb.mp h)), if_neg hbad]
      simp only [hat]
      rfl
  simp only [filter_parser_number.j3, hw, stop_f]
  rw [if_neg (by simp)]
  simp only [Option.bind_some]
  unfold numBad at key
  rw [htw] at key
  by_cases e1 : (at_ : Int) = (first : Int)
  · rw [if_pos e1]
    have := key true (by simp; exact Or.inl (List.eq_nil_of_length_eq_zero (by omega)))
    simpa using this
  · have hpne : pre ≠ [] := by intro h; rw [h] at hp; simp at hp; omega
    rw [if_neg e1]
    have hneg : ∀ (x : Prop), x = (sg < 0 ∧ valD pre = 0) → ((x) ↔ (if sg < 0 then (if valD pre = 0 then True else False) else False)) := by
      intro x hx
      rw [hx]
      by_cases a : sg < 0 <;> by_cases b : valD pre = 0 <;> simp [a, b]
    have tail : ∀ (q : Prop), (¬ q) → (q = (1 < pre.length ∧ (dropB s first).head? = some 48)) →
        (if sg < 0 then (if valD pre = 0 then (some (sg * valD pre, s, (at_ : Int), ((s.size - frm : Nat) : Int))) else (some (sg * valD pre, s, (at_ : Int), (-1 : Int)))) else (some (sg * valD pre, s, (at_ : Int), (-1 : Int)))) = some ((numD frm sg (dropB s first)).1, s, ((s.size - (numD frm sg (dropB s first)).2.l.length : Nat) : Int), badI s (numD frm sg (dropB s first)).2.bad) := by
      intro q hq hqe
      rw [hqe] at hq
      have := key (decide (sg < 0 ∧ valD pre = 0)) (by
        simp only [decide_eq_true_eq]
        constructor
        · exact fun h => Or.inr (Or.inr h)
        · rintro (h | h | h)
          · exact absurd h hpne
          · exact absurd h hq
          · exact h)
      rw [← this]
      by_cases a : sg < 0 <;> by_cases b : valD pre = 0 <;> simp [a, b]
    rw [wrap_in (by omega) (by omega)]
    by_cases e2 : (at_ : Int) - (first : Int) > 1
    · rw [if_pos e2, if_pos (by omega), if_pos (by omega)]
      obtain ⟨c, r, hc⟩ : ∃ c r, dropB s first = c :: r := ⟨_, _, dropB_cons (by omega)⟩
      obtain ⟨_, hbt, _⟩ := bt_cons hc
      rw [hbt]
      by_cases e3 : (c.toNat : Int) = 48
      · rw [if_pos e3]
        have := key true (by simp; exact Or.inr (Or.inl ⟨by omega, by rw [hc]; simp; exact UInt8.toNat_inj.mp (by simpa using (by omega : c.toNat = 48))⟩))
        simpa using this
      · rw [if_neg e3]
        refine tail _ ?_ rfl
        rintro ⟨_, h⟩
        rw [hc] at h
        simp at h
        rw [h] at e3
        exact e3 rfl
    · rw [if_neg e2]
      refine tail _ ?_ rfl
      rintro ⟨h, _⟩
      omega

theorem number_l0 (s : ByteArray) (first frm : Nat) (sg : Int) (hsg : sg = 1 ∨ sg = -1) (hs : s.size ≤ 1000) (hfr : frm ≤ s.size) (d : Nat) : ∀ (k at_ : Nat) (pre : List UInt8),
    first ≤ at_ → at_ ≤ s.size → pre.length = at_ - first → pre.length ≤ 10 → dropB s first = pre ++ dropB s at_ → (∀ c ∈ pre, isD c = true) → s.size - at_ = d → 2 * d + 1 < k →
    filter_parser_number.l0 k ((s.size - frm : Nat) : Int) sg (valD pre) (first : Int) s (at_ : Int) (-1)
      = some ((numD frm sg (dropB s first)).1, s, ((s.size - (numD frm sg (dropB s first)).2.l.length : Nat) : Int), badI s (numD frm sg (dropB s first)).2.bad) := by
  induction d with
  | zero =>
    intro k at_ pre h0 h1 hp h10 hd hpd he hk
    obtain ⟨k, rfl⟩ : ∃ m, k = m + 2 := ⟨k - 2, by omega⟩
    simp only [filter_parser_number.l0]
    rw [if_neg (by omega)]
    exact number_end s first at_ frm sg hsg pre hs hfr h0 h1 hp h10 hd hpd (by rw [dropB_nil (by omega)]; rfl) k
  | succ d ih =>
    intro k at_ pre h0 h1 hp h10 hd hpd he hk
    obtain ⟨k, rfl⟩ : ∃ m, k = m + 2 := ⟨k - 2, by omega⟩
    have hlt : at_ < s.size := by omega
    have hc := dropB_cons hlt
    generalize hcc : s[at_]'hlt = c at hc
    obtain ⟨_, hbt, _⟩ := bt_cons hc
    simp only [filter_parser_number.l0]
    rw [if_pos (by omega), if_pos (by omega), hbt, digit_f]
    simp only [Option.bind_some]
    cases hdc : isD c with
    | false => exact number_end s first at_ frm sg hsg pre hs hfr h0 h1 hp h10 hd hpd (by rw [hc, List.takeWhile_cons, hdc]; simp) k
    | true =>
      have hdd := hdc
      rw [← isDig_u] at hdd
      simp only [isDig, decide_eq_true_eq] at hdd
      simp only [filter_parser_number.j3, if_true, stop_f, Option.bind_some]
      rw [wrap_in (by omega) (by omega)]
      by_cases h11 : (at_ : Int) - (first : Int) ≥ 10
      · rw [if_pos h11]
        have h12 : 10 < ((dropB s first).takeWhile isD).length := by
          rw [hd, List.takeWhile_append_of_pos hpd, hc, List.takeWhile_cons, if_pos hdc]
          simp
          omega
        have h13 : (dropB s first).drop 10 = dropB s at_ := by
          rw [hd, ← show pre.length = 10 by omega, List.drop_left]
        unfold numD
        rw [if_pos h12]
        simp only [h13, dropB_len]
        have : ((s.size - (s.size - at_) : Nat) : Int) = (at_ : Int) := by omega
        rw [this]
        rfl
      · have hb := valD_bounds pre hpd
        have hbig : valD pre ≤ 1000000000 := by
          have h3 : (10 : Int) ^ pre.length ≤ 10 ^ 9 := by exact_mod_cast Nat.pow_le_pow_right (by omega : 0 < 10) (by omega : pre.length ≤ 9)
          have : (10 : Int) ^ 9 = 1000000000 := by decide
          omega
        rw [if_neg h11, if_pos (by omega), if_pos (by omega), hbt, Int.emod_eq_of_lt (by omega) (by omega), wrap_in (x := 10 * valD pre) (by omega) (by omega), wrap_in (x := 10 * valD pre + ((c.toNat : Int) - 48)) (by omega) (by omega), wrap_in (x := (at_ : Int) + 1) (by omega) (by omega),
          ← valD_snoc, show (at_ : Int) + 1 = ((at_ + 1 : Nat) : Int) by omega]
        refine ih k (at_ + 1) (pre ++ [c]) (by omega) (by omega) (by simp; omega) (by simp; omega) (by rw [hd, hc]; simp) ?_ (by omega) (by omega)
        intro x hx
        rcases List.mem_append.mp hx with hx | hx
        · exact hpd x hx
        · simp at hx; subst hx; exact hdc

theorem number_f {s : ByteArray} (hs : s.size ≤ 1000) {i : Nat} (hi : i ≤ s.size) :
    filter_parser_number.f (2 * s.size + 10) s (i : Int) (-1) = some ((numL (skip (dropB s i))).1, s, ((s.size - (numL (skip (dropB s i))).2.l.length : Nat) : Int), badI s (numL (skip (dropB s i))).2.bad) := by
  have hsuf : skip (dropB s i) <:+ bytes s := (skip_suf _).trans (drop_suf s i)
  have hd := suf_drop hsuf
  have hle : (skip (dropB s i)).length ≤ s.size := by have := hsuf.length_le; rwa [bytes_len] at this
  have hbl : filter_parser_blanks.f (2 * s.size + 10) s (i : Int) (-1) = some (s, ((s.size - (skip (dropB s i)).length : Nat) : Int), -1) := blanks_l0 s hs (s.size - i) _ i hi rfl (by omega)
  simp only [filter_parser_number.f]
  rw [hbl]
  simp only [Option.bind_some]
  generalize skip (dropB s i) = L at hd hle ⊢
  rw [if_neg (by omega)]
  have v0 : (0 : Int) = valD [] := rfl
  cases L with
  | nil =>
    rw [if_neg (by simp)]
    have e : filter_parser_number.j0 (2 * s.size + 10) ((s.size - ([] : List UInt8).length : Nat) : Int) 1 0 false s ((s.size - ([] : List UInt8).length : Nat) : Int) (-1) = filter_parser_number.l0 (2 * s.size + 8) ((s.size - ([] : List UInt8).length : Nat) : Int) 1 0 ((s.size - ([] : List UInt8).length : Nat) : Int) s ((s.size - ([] : List UInt8).length : Nat) : Int) (-1) := by
      rw [show 2 * s.size + 10 = (2 * s.size + 8) + 1 + 1 from rfl]
      simp [filter_parser_number.j0, filter_parser_number.j1]
    rw [e, v0]
    have h := number_l0 s (s.size - ([] : List UInt8).length) ([] : List UInt8).length 1 (Or.inl rfl) hs (by simp) (s.size - (s.size - ([] : List UInt8).length)) (2 * s.size + 8) (s.size - ([] : List UInt8).length) [] (Nat.le_refl _) (by omega) (by simp) (by simp) (by simp) (by simp) rfl (by omega)
    rw [← hd] at h
    exact h
  | cons c r =>
    have hlt : (s.size - (c :: r).length) < s.size := by simp at hle ⊢; omega
    obtain ⟨_, hbt, h3⟩ := bt_cons hd.symm
    rw [if_pos (by omega), if_pos (by omega), hbt]
    by_cases h45 : c = 45
    · have e : filter_parser_number.j0 (2 * s.size + 10) ((s.size - (c :: r).length : Nat) : Int) 1 0 ((c.toNat : Int) == 45) s ((s.size - (c :: r).length : Nat) : Int) (-1) = filter_parser_number.l0 (2 * s.size + 8) ((s.size - (c :: r).length : Nat) : Int) (-1) 0 ((s.size - (c :: r).length + 1 : Nat) : Int) s ((s.size - (c :: r).length + 1 : Nat) : Int) (-1) := by
        rw [show 2 * s.size + 10 = (2 * s.size + 8) + 1 + 1 from rfl]
        rw [show ((c.toNat : Int) == 45) = true by rw [h45]; rfl]
        simp only [filter_parser_number.j0, filter_parser_number.j1, if_true]
        rw [wrap_in (by omega) (by omega), show ((s.size - (c :: r).length : Nat) : Int) + 1 = ((s.size - (c :: r).length + 1 : Nat) : Int) by omega]
      rw [e, v0]
      have h := number_l0 s (s.size - (c :: r).length + 1) (c :: r).length (-1) (Or.inr rfl) hs hle (s.size - (s.size - (c :: r).length + 1)) (2 * s.size + 8) (s.size - (c :: r).length + 1) [] (Nat.le_refl _) (by omega) (by simp) (by simp) (by simp) (by simp) rfl (by omega)
      rw [h3] at h
      unfold numL
      simp only [if_pos h45]
      exact h
    · have e : filter_parser_number.j0 (2 * s.size + 10) ((s.size - (c :: r).length : Nat) : Int) 1 0 ((c.toNat : Int) == 45) s ((s.size - (c :: r).length : Nat) : Int) (-1) = filter_parser_number.l0 (2 * s.size + 8) ((s.size - (c :: r).length : Nat) : Int) 1 0 ((s.size - (c :: r).length : Nat) : Int) s ((s.size - (c :: r).length : Nat) : Int) (-1) := by
        rw [show 2 * s.size + 10 = (2 * s.size + 8) + 1 + 1 from rfl]
        have : ((c.toNat : Int) == 45) = false := by rw [show (45 : Int) = ((45 : Nat) : Int) from rfl, c_eq (by decide)]; simpa using h45
        rw [this]
        simp [filter_parser_number.j0, filter_parser_number.j1]
      rw [e, v0]
      have h := number_l0 s (s.size - (c :: r).length) (c :: r).length 1 (Or.inl rfl) hs hle (s.size - (s.size - (c :: r).length)) (2 * s.size + 8) (s.size - (c :: r).length) [] (Nat.le_refl _) (by omega) (by simp) (by simp) (by simp) (by simp) rfl (by omega)
      rw [← hd] at h
      unfold numL
      simp only [if_neg h45]
      exact h
theorem number_bad {s : ByteArray} (i : Int) {b : Int} (hb : 0 ≤ b) : filter_parser_number.f 1 s i b = some (0, s, i, b) := by
  simp only [filter_parser_number.f]
  rw [blanks_bad i hb]
  simp only [Option.bind_some]
  rw [if_pos hb]
section
variable {g : Nat} {s : ByteArray} {w0 w : World} {st : St}
theorem number_P (hs : s.size ≤ 1000) (hI : IsP w0 w g s st) (hB : Below w0.heap.size w0 w) :
    Calls Tryd.prog 64 #[.pointer (some ⟨g, 0, none⟩)] w (PostP w0 w g s (.int .i64 (numberS st).1) (numberS st).2) := by
  obtain ⟨hok, hi⟩ := hI
  have hok2 := numberS_ok hok
  obtain ⟨l, b⟩ := st
  cases b with
  | none =>
    have h := number_f hs (Nat.sub_le s.size l.length)
    rw [P_drop (st := ⟨l, none⟩) hok] at h
    exact (filter_parser_number.calls _ g s _ _ _ _ _ _ w0 w hi hB h).mono fun e w' ⟨he, h1, h2, h3⟩ => ⟨he, ⟨hok2, h1⟩, h2, h3⟩
  | some n =>
    exact (filter_parser_number.calls _ g s _ _ _ _ _ _ w0 w hi hB (number_bad _ (badI_nn s n))).mono fun e w' ⟨he, h1, h2, h3⟩ => ⟨he, ⟨hok2, h1⟩, h2, h3⟩
end
end Go.Proofs.YthaapijjjgkacaaDoor.Mine
end
