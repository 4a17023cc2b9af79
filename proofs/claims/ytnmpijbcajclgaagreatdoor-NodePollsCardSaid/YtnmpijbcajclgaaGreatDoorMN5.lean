/- Texts of one claim, one behind the other, made short by a program. -/
import Derived.Test.YtnmpijbcajclgaaGreatDoorMN3
set_option linter.unusedSimpArgs false
set_option linter.unusedVariables false
section
namespace Go.Proofs.YtnmpijbcajclgaaGreatDoor.PNodeAlone
open Go.RowKit Go.Proofs.YtnmpijbcajclgaaGreatDoorW.PrintWords Go.Proofs.YtnmpijbcajclgaaGreatDoorW.PrintLast Go.Proofs.YtnmpijbcajclgaaGreatDoorW.PrintMore
attribute [local go_sem] max2_int min2_int max_two min_two max_three min_three max_four min_four
mutual
def filter_parser_number.j0 : Nat → Int → Int → Int → Bool → ByteArray → Int → Int → Option (Int × ByteArray × Int × Int)
 | 0, _, _, _, _, _, _, _ => none
 | k + 1, x3, x4, x5, x39, x1000, x1001, x1002 => if x39 = true then (filter_parser_number.j1 k x3 (-1) x5 x1000 (wrap64 (x1001 + 1)) x1002) else (filter_parser_number.j1 k x3 x4 x5 x1000 x1001 x1002)
def filter_parser_number.j1 : Nat → Int → Int → Int → ByteArray → Int → Int → Option (Int × ByteArray × Int × Int)
 | 0, _, _, _, _, _, _ => none
 | k + 1, x3, x4, x5, x1000, x1001, x1002 => filter_parser_number.l0 k x3 x4 x5 x1001 x1000 x1001 x1002
def filter_parser_number.l0 : Nat → Int → Int → Int → Int → ByteArray → Int → Int → Option (Int × ByteArray × Int × Int)
 | 0, _, _, _, _, _, _, _ => none
 | k + 1, x3, x4, x5, x6, x1000, x1001, x1002 => if x1001 < (x1000.size : Int) then (if 0 ≤ x1001 then ((filter_digit.f (bt x1000 x1001)).bind fun t154 => (filter_parser_number.j3 k x3 x4 x5 x6 t154 x1000 x1001 x1002)) else (none)) else (filter_parser_number.j3 k x3 x4 x5 x6 false x1000 x1001 x1002)
def filter_parser_number.j3 : Nat → Int → Int → Int → Int → Bool → ByteArray → Int → Int → Option (Int × ByteArray × Int × Int)
 | 0, _, _, _, _, _, _, _, _ => none
 | k + 1, x3, x4, x5, x6, x72, x1000, x1001, x1002 => if x72 = true then (if (wrap64 (x1001 - x6)) ≥ 10 then ((filter_parser_stop.f x1000 x1001 x1002 x3).bind fun bt155 => (some (0, bt155.1, bt155.2.1, bt155.2.2))) else (if 0 ≤ x1001 then (if x1001 < (x1000.size : Int) then (filter_parser_number.l0 k x3 x4 (wrap64 ((wrap64 (10 * x5)) + (((bt x1000 x1001) - 48) % 256))) x6 x1000 (wrap64 (x1001 + 1)) x1002) else (none)) else (none))) else (if x1001 = x6 then ((filter_parser_stop.f x1000 x1001 x1002 x3).bind fun bt158 => (some (wrap64 (x4 * x5), bt158.1, bt158.2.1, bt158.2.2))) else (if (wrap64 (x1001 - x6)) > 1 then (if 0 ≤ x6 then (if x6 < (x1000.size : Int) then (if (bt x1000 x6) = 48 then ((filter_parser_stop.f x1000 x1001 x1002 x3).bind fun bt161 => (some (wrap64 (x4 * x5), bt161.1, bt161.2.1, bt161.2.2))) else (if x4 < 0 then (if x5 = 0 then ((filter_parser_stop.f x1000 x1001 x1002 x3).bind fun bt164 => (some (wrap64 (x4 * x5), bt164.1, bt164.2.1, bt164.2.2))) else (some (wrap64 (x4 * x5), x1000, x1001, x1002))) else (some (wrap64 (x4 * x5), x1000, x1001, x1002)))) else (none)) else (none)) else (if x4 < 0 then (if x5 = 0 then ((filter_parser_stop.f x1000 x1001 x1002 x3).bind fun bt167 => (some (wrap64 (x4 * x5), bt167.1, bt167.2.1, bt167.2.2))) else (some (wrap64 (x4 * x5), x1000, x1001, x1002))) else (some (wrap64 (x4 * x5), x1000, x1001, x1002)))))
end
def filter_parser_number.f (k : Nat) (s0_0 : ByteArray) (s0_1 : Int) (s0_2 : Int) : Option (Int × ByteArray × Int × Int) := (filter_parser_blanks.f k s0_0 s0_1 s0_2).bind fun bt151 => (if bt151.2.2 ≥ 0 then (some (0, bt151.1, bt151.2.1, bt151.2.2)) else (if bt151.2.1 < (bt151.1.size : Int) then (if 0 ≤ bt151.2.1 then (filter_parser_number.j0 k bt151.2.1 1 0 ((bt bt151.1 bt151.2.1) == 45) bt151.1 bt151.2.1 bt151.2.2) else (none)) else (filter_parser_number.j0 k bt151.2.1 1 0 false bt151.1 bt151.2.1 bt151.2.2)))
theorem filter_parser_number.mono_l : ∀ k, (∀ y0 y1 y2 y3 y4 y5 y6, LeO (filter_parser_number.j0 k y0 y1 y2 y3 y4 y5 y6) (filter_parser_number.j0 (k + 1) y0 y1 y2 y3 y4 y5 y6)) ∧ (∀ y0 y1 y2 y3 y4 y5, LeO (filter_parser_number.j1 k y0 y1 y2 y3 y4 y5) (filter_parser_number.j1 (k + 1) y0 y1 y2 y3 y4 y5)) ∧ (∀ y0 y1 y2 y3 y4 y5 y6, LeO (filter_parser_number.l0 k y0 y1 y2 y3 y4 y5 y6) (filter_parser_number.l0 (k + 1) y0 y1 y2 y3 y4 y5 y6)) ∧ (∀ y0 y1 y2 y3 y4 y5 y6 y7, LeO (filter_parser_number.j3 k y0 y1 y2 y3 y4 y5 y6 y7) (filter_parser_number.j3 (k + 1) y0 y1 y2 y3 y4 y5 y6 y7))
 | 0 => ⟨fun _ _ _ _ _ _ _ r h => by simp [filter_parser_number.j0] at h, fun _ _ _ _ _ _ r h => by simp [filter_parser_number.j1] at h, fun _ _ _ _ _ _ _ r h => by simp [filter_parser_number.l0] at h, fun _ _ _ _ _ _ _ _ r h => by simp [filter_parser_number.j3] at h⟩
 | k + 1 => by
  obtain ⟨ih0, ih1, ih2, ih3⟩ := filter_parser_number.mono_l k
  refine ⟨?_, ?_, ?_, ?_⟩
  ·
   intro y0 y1 y2 y3 y4 y5 y6
   unfold filter_parser_number.j0
   repeat' first
   | (with_reducible exact ih0 _ _ _ _ _ _ _)
   | (with_reducible exact ih1 _ _ _ _ _ _)
   | (with_reducible exact ih2 _ _ _ _ _ _ _)
   | (with_reducible exact ih3 _ _ _ _ _ _ _ _)
   | (with_reducible exact filter_parser_blanks.mono _ _ _ _)
   | (with_reducible exact LeO.refl _)
   | (with_reducible exact LeO.none _)
   | (with_reducible refine LeO.ite ?_ ?_)
   | (with_reducible refine LeO.bind ?_ (fun _ => ?_))
   | exact ih0 _ _ _ _ _ _ _
   | exact ih1 _ _ _ _ _ _
   | exact ih2 _ _ _ _ _ _ _
   | exact ih3 _ _ _ _ _ _ _ _
   | exact filter_parser_blanks.mono _ _ _ _
   | exact LeO.none _
   | refine LeO.ite ?_ ?_
   | refine LeO.bind ?_ (fun _ => ?_)
  ·
   intro y0 y1 y2 y3 y4 y5
   unfold filter_parser_number.j1
   repeat' first
   | (with_reducible exact ih0 _ _ _ _ _ _ _)
   | (with_reducible exact ih1 _ _ _ _ _ _)
   | (with_reducible exact ih2 _ _ _ _ _ _ _)
   | (with_reducible exact ih3 _ _ _ _ _ _ _ _)
   | (with_reducible exact filter_parser_blanks.mono _ _ _ _)
   | (with_reducible exact LeO.refl _)
   | (with_reducible exact LeO.none _)
   | (with_reducible refine LeO.ite ?_ ?_)
   | (with_reducible refine LeO.bind ?_ (fun _ => ?_))
   | exact ih0 _ _ _ _ _ _ _
   | exact ih1 _ _ _ _ _ _
   | exact ih2 _ _ _ _ _ _ _
   | exact ih3 _ _ _ _ _ _ _ _
   | exact filter_parser_blanks.mono _ _ _ _
   | exact LeO.none _
   | refine LeO.ite ?_ ?_
   | refine LeO.bind ?_ (fun _ => ?_)
  ·
   intro y0 y1 y2 y3 y4 y5 y6
   unfold filter_parser_number.l0
   repeat' first
   | (with_reducible exact ih0 _ _ _ _ _ _ _)
   | (with_reducible exact ih1 _ _ _ _ _ _)
   | (with_reducible exact ih2 _ _ _ _ _ _ _)
   | (with_reducible exact ih3 _ _ _ _ _ _ _ _)
   | (with_reducible exact filter_parser_blanks.mono _ _ _ _)
   | (with_reducible exact LeO.refl _)
   | (with_reducible exact LeO.none _)
   | (with_reducible refine LeO.ite ?_ ?_)
   | (with_reducible refine LeO.bind ?_ (fun _ => ?_))
   | exact ih0 _ _ _ _ _ _ _
   | exact ih1 _ _ _ _ _ _
   | exact ih2 _ _ _ _ _ _ _
   | exact ih3 _ _ _ _ _ _ _ _
   | exact filter_parser_blanks.mono _ _ _ _
   | exact LeO.none _
   | refine LeO.ite ?_ ?_
   | refine LeO.bind ?_ (fun _ => ?_)
  ·
   intro y0 y1 y2 y3 y4 y5 y6 y7
   unfold filter_parser_number.j3
   repeat' first
   | (with_reducible exact ih0 _ _ _ _ _ _ _)
   | (with_reducible exact ih1 _ _ _ _ _ _)
   | (with_reducible exact ih2 _ _ _ _ _ _ _)
   | (with_reducible exact ih3 _ _ _ _ _ _ _ _)
   | (with_reducible exact filter_parser_blanks.mono _ _ _ _)
   | (with_reducible exact LeO.refl _)
   | (with_reducible exact LeO.none _)
   | (with_reducible refine LeO.ite ?_ ?_)
   | (with_reducible refine LeO.bind ?_ (fun _ => ?_))
   | exact ih0 _ _ _ _ _ _ _
   | exact ih1 _ _ _ _ _ _
   | exact ih2 _ _ _ _ _ _ _
   | exact ih3 _ _ _ _ _ _ _ _
   | exact filter_parser_blanks.mono _ _ _ _
   | exact LeO.none _
   | refine LeO.ite ?_ ?_
   | refine LeO.bind ?_ (fun _ => ?_)
theorem filter_parser_number.mono : ∀ a0 a1 a2 k, LeO (filter_parser_number.f k a0 a1 a2) (filter_parser_number.f (k + 1) a0 a1 a2) := by
 intro a0 a1 a2 k
 obtain ⟨ih0, ih1, ih2, ih3⟩ := filter_parser_number.mono_l k
 unfold filter_parser_number.f
 repeat' first
  | (with_reducible exact ih0 _ _ _ _ _ _ _)
  | (with_reducible exact ih1 _ _ _ _ _ _)
  | (with_reducible exact ih2 _ _ _ _ _ _ _)
  | (with_reducible exact ih3 _ _ _ _ _ _ _ _)
  | (with_reducible exact filter_parser_blanks.mono _ _ _ _)
  | (with_reducible exact LeO.refl _)
  | (with_reducible exact LeO.none _)
  | (with_reducible refine LeO.ite ?_ ?_)
  | (with_reducible refine LeO.bind ?_ (fun _ => ?_))
  | exact ih0 _ _ _ _ _ _ _
  | exact ih1 _ _ _ _ _ _
  | exact ih2 _ _ _ _ _ _ _
  | exact ih3 _ _ _ _ _ _ _ _
  | exact filter_parser_blanks.mono _ _ _ _
  | exact LeO.none _
  | refine LeO.ite ?_ ?_
  | refine LeO.bind ?_ (fun _ => ?_)
set_option maxHeartbeats 8000000 in
set_option maxRecDepth 100000 in
theorem filter_parser_number.calls (k : Nat) (g : Nat) (s0_0 : ByteArray) (s0_1 : Int) (s0_2 : Int) (r1 : Int) (r2 : ByteArray) (r3 : Int) (r4 : Int) (w0 w : World) (hI : IsS254 w0 w g s0_0 s0_1 s0_2) (hB : Below w0.heap.size w0 w) (h : filter_parser_number.f k s0_0 s0_1 s0_2 = some (r1, r2, r3, r4)) :
 Calls Tryz.prog 204 #[.pointer (some ⟨g, 0, none⟩)] w fun e w' => e = .returned (.int .i64 r1) ∧ IsS254 w0 w' g r2 r3 r4 ∧ Below w0.heap.size w0 w' ∧ KeepBut w w' g none := by
 have HI0 := mk0 hI
 have HK := mk0 (KeepBut.refl w g none)
 have HL := mk0 hB.size
 clear hI
 have HW0 := mk0 hB.size
 have HB := mk0 hB
 clear hB
 have H : ((filter_parser_blanks.f k s0_0 s0_1 s0_2).bind fun bt151 => (if bt151.2.2 ≥ 0 then (some (0, bt151.1, bt151.2.1, bt151.2.2)) else (if bt151.2.1 < (bt151.1.size : Int) then (if 0 ≤ bt151.2.1 then (filter_parser_number.j0 k bt151.2.1 1 0 ((bt bt151.1 bt151.2.1) == 45) bt151.1 bt151.2.1 bt151.2.2) else (none)) else (filter_parser_number.j0 k bt151.2.1 1 0 false bt151.1 bt151.2.1 bt151.2.2)))) = some (r1, r2, r3, r4) := h
 clear h
 replace H := Option.bind_eq_some_iff.mp H
 obtain ⟨⟨t151, t152, t153⟩, A20, H⟩ := H
 replace H : (if t153 ≥ 0 then (some (0, t151, t152, t153)) else (if t152 < (t151.size : Int) then (if 0 ≤ t152 then (filter_parser_number.j0 k t152 1 0 ((bt t151 t152) == 45) t151 t152 t153) else (none)) else (filter_parser_number.j0 k t152 1 0 false t151 t152 t153))) = some (r1, r2, r3, r4) := H
 have A2 := mk0 A20
 clear A20
 by_cases c3 : t153 ≥ 0
 ·
  rw [if_pos c3] at H
  have c3b0 : decide (0 ≤ t153) = true := decide_eq_true c3
  clear c3
  simp only [Option.some.injEq, Prod.mk.injEq] at H
  obtain ⟨rfl, rfl, rfl, rfl⟩ := H
  go_enter Tryz.func204, Tryz.ntmps204
  go_wp2_with (first | (go_at_call 144; (with_reducible refine (filter_parser_blanks.calls k g s0_0 s0_1 s0_2 t151 t152 t153 w0 _ ?side1 ?side2 A2.out).mono ?_); (case side1 => repeat (first | (with_reducible first | exact HI0.out | apply IsS254.alloc | apply IsS254.drewN | apply IsS254.drew | apply IsS254.set_0 | apply IsS254.set_1 | apply IsS254.set_2) | exact HI0.out)); (case side2 => repeat (first | (with_reducible first | exact HB.out | apply below_alloc | apply pw_below_drewN | apply below_drew1 | refine below_set ?_ (IsS254.ge HI0.out)) | exact HB.out)); rintro e w4 ⟨rfl, hi, hb, hk⟩; have n0_ := mk0 (KeepBut.trans (by repeat (first | (with_reducible first | exact HK.out | apply KeepBut.set_ | apply keep_drewN | apply keep_drew | apply keep_alloc) | exact HK.out)) hk (.inl rfl)); have n1_ := mk0 (hb); have n2_ := mk0 (hi); clear HK; clear HB; clear HI0; have HK := n0_; have HB := n1_; have HI0 := n2_; clear n0_ n1_ n2_; (try clear hb); (try clear hb2); (try clear hk); (try clear hi); obtain ⟨HGz5, hgz5⟩ := HI0.out; have hcz5_0 := cellS254_0 HGz5; have hcz5_1 := cellS254_1 HGz5; have hcz5_2 := cellS254_2 HGz5; have hfz5_0 := blk_frozen HGz5 0; have hfz5_1 := blk_frozen HGz5 1; have hfz5_2 := blk_frozen HGz5 2; clear HGz5 hgz5))
  repeat (go_quiet (first | (go_at_call 144; (with_reducible refine (filter_parser_blanks.calls k g s0_0 s0_1 s0_2 t151 t152 t153 w0 _ ?side1 ?side2 A2.out).mono ?_); (case side1 => repeat (first | (with_reducible first | exact HI0.out | apply IsS254.alloc | apply IsS254.drewN | apply IsS254.drew | apply IsS254.set_0 | apply IsS254.set_1 | apply IsS254.set_2) | exact HI0.out)); (case side2 => repeat (first | (with_reducible first | exact HB.out | apply below_alloc | apply pw_below_drewN | apply below_drew1 | refine below_set ?_ (IsS254.ge HI0.out)) | exact HB.out)); rintro e w4 ⟨rfl, hi, hb, hk⟩; have n0_ := mk0 (KeepBut.trans (by repeat (first | (with_reducible first | exact HK.out | apply KeepBut.set_ | apply keep_drewN | apply keep_drew | apply keep_alloc) | exact HK.out)) hk (.inl rfl)); have n1_ := mk0 (hb); have n2_ := mk0 (hi); clear HK; clear HB; clear HI0; have HK := n0_; have HB := n1_; have HI0 := n2_; clear n0_ n1_ n2_; (try clear hb); (try clear hb2); (try clear hk); (try clear hi); obtain ⟨HGz5, hgz5⟩ := HI0.out; have hcz5_0 := cellS254_0 HGz5; have hcz5_1 := cellS254_1 HGz5; have hcz5_2 := cellS254_2 HGz5; have hfz5_0 := blk_frozen HGz5 0; have hfz5_1 := blk_frozen HGz5 1; have hfz5_2 := blk_frozen HGz5 2; clear HGz5 hgz5)); try go_wp2_with (first | (go_at_call 144; (with_reducible refine (filter_parser_blanks.calls k g s0_0 s0_1 s0_2 t151 t152 t153 w0 _ ?side1 ?side2 A2.out).mono ?_); (case side1 => repeat (first | (with_reducible first | exact HI0.out | apply IsS254.alloc | apply IsS254.drewN | apply IsS254.drew | apply IsS254.set_0 | apply IsS254.set_1 | apply IsS254.set_2) | exact HI0.out)); (case side2 => repeat (first | (with_reducible first | exact HB.out | apply below_alloc | apply pw_below_drewN | apply below_drew1 | refine below_set ?_ (IsS254.ge HI0.out)) | exact HB.out)); rintro e w4 ⟨rfl, hi, hb, hk⟩; have n0_ := mk0 (KeepBut.trans (by repeat (first | (with_reducible first | exact HK.out | apply KeepBut.set_ | apply keep_drewN | apply keep_drew | apply keep_alloc) | exact HK.out)) hk (.inl rfl)); have n1_ := mk0 (hb); have n2_ := mk0 (hi); clear HK; clear HB; clear HI0; have HK := n0_; have HB := n1_; have HI0 := n2_; clear n0_ n1_ n2_; (try clear hb); (try clear hb2); (try clear hk); (try clear hi); obtain ⟨HGz5, hgz5⟩ := HI0.out; have hcz5_0 := cellS254_0 HGz5; have hcz5_1 := cellS254_1 HGz5; have hcz5_2 := cellS254_2 HGz5; have hfz5_0 := blk_frozen HGz5 0; have hfz5_1 := blk_frozen HGz5 1; have hfz5_2 := blk_frozen HGz5 2; clear HGz5 hgz5)))
  go_ret
  exact ⟨by first | rfl | (simp [errW_none, errW_some] <;> rfl) | (simp [*, errW_none, errW_some] <;> rfl), by repeat (first | (with_reducible first | exact HI0.out | apply IsS254.alloc | apply IsS254.drewN | apply IsS254.drew | apply IsS254.set_0 | apply IsS254.set_1 | apply IsS254.set_2) | exact HI0.out), by repeat (first | (with_reducible first | exact HB.out | apply below_alloc | apply pw_below_drewN | apply below_drew1 | refine below_set ?_ (IsS254.ge HI0.out)) | exact HB.out), by repeat (first | (with_reducible first | exact HK.out | apply KeepBut.set_ | apply keep_drewN | apply keep_drew | apply keep_alloc) | exact HK.out)⟩
 ·
  rw [if_neg c3] at H
  have c3b0 : decide (0 ≤ t153) = false := decide_eq_false c3
  clear c3
  have HC6 := mk0 H
  clear H
  go_enter Tryz.func204, Tryz.ntmps204
  go_upto_region 5 with (first | (go_at_call 144; (with_reducible refine (filter_parser_blanks.calls k g s0_0 s0_1 s0_2 t151 t152 t153 w0 _ ?side1 ?side2 A2.out).mono ?_); (case side1 => repeat (first | (with_reducible first | exact HI0.out | apply IsS254.alloc | apply IsS254.drewN | apply IsS254.drew | apply IsS254.set_0 | apply IsS254.set_1 | apply IsS254.set_2) | exact HI0.out)); (case side2 => repeat (first | (with_reducible first | exact HB.out | apply below_alloc | apply pw_below_drewN | apply below_drew1 | refine below_set ?_ (IsS254.ge HI0.out)) | exact HB.out)); rintro e w7 ⟨rfl, hi, hb, hk⟩; have n0_ := mk0 (KeepBut.trans (by repeat (first | (with_reducible first | exact HK.out | apply KeepBut.set_ | apply keep_drewN | apply keep_drew | apply keep_alloc) | exact HK.out)) hk (.inl rfl)); have n1_ := mk0 (hb); have n2_ := mk0 (hi); clear HK; clear HB; clear HI0; have HK := n0_; have HB := n1_; have HI0 := n2_; clear n0_ n1_ n2_; (try clear hb); (try clear hb2); (try clear hk); (try clear hi); obtain ⟨HGz8, hgz8⟩ := HI0.out; have hcz8_0 := cellS254_0 HGz8; have hcz8_1 := cellS254_1 HGz8; have hcz8_2 := cellS254_2 HGz8; have hfz8_0 := blk_frozen HGz8 0; have hfz8_1 := blk_frozen HGz8 1; have hfz8_2 := blk_frozen HGz8 2; clear HGz8 hgz8))
  repeat (go_quiet (first | (go_at_call 144; (with_reducible refine (filter_parser_blanks.calls k g s0_0 s0_1 s0_2 t151 t152 t153 w0 _ ?side1 ?side2 A2.out).mono ?_); (case side1 => repeat (first | (with_reducible first | exact HI0.out | apply IsS254.alloc | apply IsS254.drewN | apply IsS254.drew | apply IsS254.set_0 | apply IsS254.set_1 | apply IsS254.set_2) | exact HI0.out)); (case side2 => repeat (first | (with_reducible first | exact HB.out | apply below_alloc | apply pw_below_drewN | apply below_drew1 | refine below_set ?_ (IsS254.ge HI0.out)) | exact HB.out)); rintro e w7 ⟨rfl, hi, hb, hk⟩; have n0_ := mk0 (KeepBut.trans (by repeat (first | (with_reducible first | exact HK.out | apply KeepBut.set_ | apply keep_drewN | apply keep_drew | apply keep_alloc) | exact HK.out)) hk (.inl rfl)); have n1_ := mk0 (hb); have n2_ := mk0 (hi); clear HK; clear HB; clear HI0; have HK := n0_; have HB := n1_; have HI0 := n2_; clear n0_ n1_ n2_; (try clear hb); (try clear hb2); (try clear hk); (try clear hi); obtain ⟨HGz8, hgz8⟩ := HI0.out; have hcz8_0 := cellS254_0 HGz8; have hcz8_1 := cellS254_1 HGz8; have hcz8_2 := cellS254_2 HGz8; have hfz8_0 := blk_frozen HGz8 0; have hfz8_1 := blk_frozen HGz8 1; have hfz8_2 := blk_frozen HGz8 2; clear HGz8 hgz8)); go_upto_region 5 with (first | (go_at_call 144; (with_reducible refine (filter_parser_blanks.calls k g s0_0 s0_1 s0_2 t151 t152 t153 w0 _ ?side1 ?side2 A2.out).mono ?_); (case side1 => repeat (first | (with_reducible first | exact HI0.out | apply IsS254.alloc | apply IsS254.drewN | apply IsS254.drew | apply IsS254.set_0 | apply IsS254.set_1 | apply IsS254.set_2) | exact HI0.out)); (case side2 => repeat (first | (with_reducible first | exact HB.out | apply below_alloc | apply pw_below_drewN | apply below_drew1 | refine below_set ?_ (IsS254.ge HI0.out)) | exact HB.out)); rintro e w7 ⟨rfl, hi, hb, hk⟩; have n0_ := mk0 (KeepBut.trans (by repeat (first | (with_reducible first | exact HK.out | apply KeepBut.set_ | apply keep_drewN | apply keep_drew | apply keep_alloc) | exact HK.out)) hk (.inl rfl)); have n1_ := mk0 (hb); have n2_ := mk0 (hi); clear HK; clear HB; clear HI0; have HK := n0_; have HB := n1_; have HI0 := n2_; clear n0_ n1_ n2_; (try clear hb); (try clear hb2); (try clear hk); (try clear hi); obtain ⟨HGz8, hgz8⟩ := HI0.out; have hcz8_0 := cellS254_0 HGz8; have hcz8_1 := cellS254_1 HGz8; have hcz8_2 := cellS254_2 HGz8; have hfz8_0 := blk_frozen HGz8 0; have hfz8_1 := blk_frozen HGz8 1; have hfz8_2 := blk_frozen HGz8 2; clear HGz8 hgz8)))
  (try simp only [Act.put, List.setIfInBounds_toArray, List.set_cons_zero, List.set_cons_succ])
  go_cut [39] (fun v39 wc => ∃ (kq : Nat) (x39_5 : Bool), v39 = .bool x39_5 ∧ Aside0 (filter_parser_number.j0 kq t152 1 0 x39_5 t151 t152 t153 = some (r1, r2, r3, r4)) ∧ Aside0 (kq ≤ k) ∧ Aside0 (IsS254 w0 wc g t151 t152 t153) ∧ Aside0 (KeepBut w wc g none) ∧ Aside0 (Below w0.heap.size w0 wc))
  case first =>
   have H := HC6.out
   clear HC6
   by_cases c9 : t152 < (t151.size : Int)
   ·
    rw [if_pos c9] at H
    have c9b0 : decide (t152 < (t151.size : Int)) = true := decide_eq_true c9
    clear c9
    (first | rw [c9b0] | (simp only [i64_w, i32_w]; rw [c9b0]) | skip)
    by_cases c10 : 0 ≤ t152
    ·
     rw [if_pos c10] at H
     have c10b0 : decide (0 ≤ t152) = true := decide_eq_true c10
     clear c10
     have H' := mk0 H
     clear H
     obtain ⟨HGz12, hgz12⟩ := HI0.out
     have hcz12_0 := cellS254_0 HGz12
     have hcz12_1 := cellS254_1 HGz12
     have hcz12_2 := cellS254_2 HGz12
     have hfz12_0 := blk_frozen HGz12 0
     have hfz12_1 := blk_frozen HGz12 1
     have hfz12_2 := blk_frozen HGz12 2
     clear HGz12 hgz12
     have p11 : 0 ≤ (t152 : Int) := of_decide_eq_true (by first | (with_reducible assumption) | assumption)
     have q11 : t152 < (t151.size : Int) := of_decide_eq_true (by first | (with_reducible assumption) | assumption)
     have hx11 := bt_at t151 t152
     replace p11 := eq_true p11
     replace q11 := eq_true q11
     go_wp2
     repeat (go_quiet (fail); try go_wp2)
     go_meet
     case rel => exact ⟨_, (((bt t151 t152) == 45)), (by first | rfl | (simp; done) | (simp [*]; done)), H', ⟨by first | omega | exact Nat.le_refl _⟩, ⟨by repeat (first | (with_reducible first | exact HI0.out | apply IsS254.alloc | apply IsS254.drewN | apply IsS254.drew | apply IsS254.set_0 | apply IsS254.set_1 | apply IsS254.set_2) | exact HI0.out)⟩, ⟨by repeat (first | (with_reducible first | exact HK.out | apply KeepBut.set_ | apply keep_drewN | apply keep_drew | apply keep_alloc) | exact HK.out)⟩, ⟨by repeat (first | (with_reducible first | exact HB.out | apply below_alloc | apply pw_below_drewN | apply below_drew1 | refine below_set ?_ (IsS254.ge HI0.out)) | exact HB.out)⟩⟩
    ·
     rw [if_neg c10] at H
     exact absurd H (by simp)
   ·
    rw [if_neg c9] at H
    have c9b0 : decide (t152 < (t151.size : Int)) = false := decide_eq_false c9
    clear c9
    (first | rw [c9b0] | (simp only [i64_w, i32_w]; rw [c9b0]) | skip)
    have H' := mk0 H
    clear H
    obtain ⟨HGz13, hgz13⟩ := HI0.out
    have hcz13_0 := cellS254_0 HGz13
    have hcz13_1 := cellS254_1 HGz13
    have hcz13_2 := cellS254_2 HGz13
    have hfz13_0 := blk_frozen HGz13 0
    have hfz13_1 := blk_frozen HGz13 1
    have hfz13_2 := blk_frozen HGz13 2
    clear HGz13 hgz13
    go_wp2
    repeat (go_quiet (fail); try go_wp2)
    go_meet
    case rel => exact ⟨_, (false), (by first | rfl | (simp; done) | (simp [*]; done)), H', ⟨by first | omega | exact Nat.le_refl _⟩, ⟨by repeat (first | (with_reducible first | exact HI0.out | apply IsS254.alloc | apply IsS254.drewN | apply IsS254.drew | apply IsS254.set_0 | apply IsS254.set_1 | apply IsS254.set_2) | exact HI0.out)⟩, ⟨by repeat (first | (with_reducible first | exact HK.out | apply KeepBut.set_ | apply keep_drewN | apply keep_drew | apply keep_alloc) | exact HK.out)⟩, ⟨by repeat (first | (with_reducible first | exact HB.out | apply below_alloc | apply pw_below_drewN | apply below_drew1 | refine below_set ?_ (IsS254.ge HI0.out)) | exact HB.out)⟩⟩
  case rest =>
   clear HC6
   try clear c1
   try clear p1
   try clear q1
   try clear hx1
   try clear c2
   try clear p2
   try clear c3
   try clear c3b0
   try clear c9
   try clear c9b0
   try clear c10
   try clear c10b0
   try clear p11
   try clear q11
   try clear hx11
   try clear hcz12_0
   try clear hcz12_1
   try clear hcz12_2
   try clear hcz13_0
   try clear hcz13_1
   try clear hcz13_2
   try clear hcz5_0
   try clear hcz5_1
   try clear hcz5_2
   try clear hcz8_0
   try clear hcz8_1
   try clear hcz8_2
   try clear hfz12_0
   try clear hfz12_1
   try clear hfz12_2
   try clear hfz13_0
   try clear hfz13_1
   try clear hfz13_2
   try clear hfz5_0
   try clear hfz5_1
   try clear hfz5_2
   try clear hfz8_0
   try clear hfz8_1
   try clear hfz8_2
   try clear p11
   try clear q11
   obtain ⟨kq, x39_5, rfl, HA, HJ5, HI0, HK, HB⟩ := hcut
   cases kq with
   | zero => exact absurd HA.out (by simp [filter_parser_number.j0])
   | succ kj5 =>
    have H := HA.out
    clear HA
    simp only [filter_parser_number.j0] at H
    have HC14 := mk0 H
    clear H
    go_upto_if 39 with (fail)
    repeat (go_quiet (fail); go_upto_if 39 with (fail))
    go_cut [4] (fun v4 wc => ∃ (kq : Nat) (x4_13 : Int) (x1001_13 : Int), v4 = .int .i64 x4_13 ∧ Aside0 (filter_parser_number.j1 kq t152 x4_13 0 t151 x1001_13 t153 = some (r1, r2, r3, r4)) ∧ Aside0 (kq ≤ kj5) ∧ Aside0 (IsS254 w0 wc g t151 x1001_13 t153) ∧ Aside0 (KeepBut w wc g none) ∧ Aside0 (Below w0.heap.size w0 wc))
    case first =>
     have H := HC14.out
     clear HC14
     by_cases c15 : x39_5 = true
     ·
      subst c15
      have H1 : (filter_parser_number.j1 kj5 t152 (-1) 0 t151 (wrap64 (t152 + 1)) t153) = some (r1, r2, r3, r4) := by rw [if_pos rfl] at H; exact H
      clear H
      have H := H1
      clear H1
      have H' := mk0 H
      clear H
      obtain ⟨HGz16, hgz16⟩ := HI0.out
      have hcz16_0 := cellS254_0 HGz16
      have hcz16_1 := cellS254_1 HGz16
      have hcz16_2 := cellS254_2 HGz16
      have hfz16_0 := blk_frozen HGz16 0
      have hfz16_1 := blk_frozen HGz16 1
      have hfz16_2 := blk_frozen HGz16 2
      clear HGz16 hgz16
      go_wp2
      repeat (go_quiet (fail); try go_wp2)
      go_meet
      case rel => exact ⟨_, ((-1)), (wrap64 (t152 + 1)), (by first | rfl | (simp; done) | (simp [*]; done)), H', ⟨by have := HJ5.out; first | omega | exact Nat.le_refl _⟩, ⟨by repeat (first | (with_reducible first | exact HI0.out | apply IsS254.alloc | apply IsS254.drewN | apply IsS254.drew | apply IsS254.set_0 | apply IsS254.set_1 | apply IsS254.set_2) | exact HI0.out)⟩, ⟨by repeat (first | (with_reducible first | exact HK.out | apply KeepBut.set_ | apply keep_drewN | apply keep_drew | apply keep_alloc) | exact HK.out)⟩, ⟨by repeat (first | (with_reducible first | exact HB.out | apply below_alloc | apply pw_below_drewN | apply below_drew1 | refine below_set ?_ (IsS254.ge HI0.out)) | exact HB.out)⟩⟩
     ·
      replace c15 := Bool.eq_false_iff.mpr c15
      subst c15
      have H1 : (filter_parser_number.j1 kj5 t152 1 0 t151 t152 t153) = some (r1, r2, r3, r4) := by rw [if_neg (show ¬ (false = true) by decide)] at H; exact H
      clear H
      have H := H1
      clear H1
      have H' := mk0 H
      clear H
      go_wp2
      repeat (go_quiet (fail); try go_wp2)
      go_meet
      case rel => exact ⟨_, (1), (t152), (by first | rfl | (simp; done) | (simp [*]; done)), H', ⟨by have := HJ5.out; first | omega | exact Nat.le_refl _⟩, ⟨by repeat (first | (with_reducible first | exact HI0.out | apply IsS254.alloc | apply IsS254.drewN | apply IsS254.drew | apply IsS254.set_0 | apply IsS254.set_1 | apply IsS254.set_2) | exact HI0.out)⟩, ⟨by repeat (first | (with_reducible first | exact HK.out | apply KeepBut.set_ | apply keep_drewN | apply keep_drew | apply keep_alloc) | exact HK.out)⟩, ⟨by repeat (first | (with_reducible first | exact HB.out | apply below_alloc | apply pw_below_drewN | apply below_drew1 | refine below_set ?_ (IsS254.ge HI0.out)) | exact HB.out)⟩⟩
    case rest =>
     clear HC14
     try clear c1
     try clear p1
     try clear q1
     try clear hx1
     try clear c2
     try clear p2
     try clear c3
     try clear c3b0
     try clear p6
     try clear c9
     try clear c9b0
     try clear c10
     try clear c10b0
     try clear p11
     try clear q11
     try clear hx11
     try clear c15
     try clear hcz12_0
     try clear hcz12_1
     try clear hcz12_2
     try clear hcz13_0
     try clear hcz13_1
     try clear hcz13_2
     try clear hcz16_0
     try clear hcz16_1
     try clear hcz16_2
     try clear hcz5_0
     try clear hcz5_1
     try clear hcz5_2
     try clear hcz8_0
     try clear hcz8_1
     try clear hcz8_2
     try clear hfz12_0
     try clear hfz12_1
     try clear hfz12_2
     try clear hfz13_0
     try clear hfz13_1
     try clear hfz13_2
     try clear hfz16_0
     try clear hfz16_1
     try clear hfz16_2
     try clear hfz5_0
     try clear hfz5_1
     try clear hfz5_2
     try clear hfz8_0
     try clear hfz8_1
     try clear hfz8_2
     try clear p1
     try clear p11
     try clear p2
     try clear q1
     try clear q11
     obtain ⟨kq, x4_13, x1001_13, rfl, HA, HJ13, HI0, HK, HB⟩ := hcut
     cases kq with
     | zero => exact absurd HA.out (by simp [filter_parser_number.j1])
     | succ kj13 =>
      have H := HA.out
      clear HA
      simp only [filter_parser_number.j1] at H
      have H' := mk0 H
      clear H
      obtain ⟨HGz17, hgz17⟩ := HI0.out
      have hcz17_0 := cellS254_0 HGz17
      have hcz17_1 := cellS254_1 HGz17
      have hcz17_2 := cellS254_2 HGz17
      have hfz17_0 := blk_frozen HGz17 0
      have hfz17_1 := blk_frozen HGz17 1
      have hfz17_2 := blk_frozen HGz17 2
      clear HGz17 hgz17
      go_wp2
      repeat (go_quiet (fail); try go_wp2)
      go_loopg [5] kj13 (fun kq v5 w' => ∃ (x5_3 : Int) (x1000_3 : ByteArray) (x1001_3 : Int) (x1002_3 : Int), v5 = .int .i64 x5_3 ∧ Aside0 (filter_parser_number.l0 kq t152 x4_13 x5_3 x1001_13 x1000_3 x1001_3 x1002_3 = some (r1, r2, r3, r4)) ∧ Aside0 (kq ≤ kj13) ∧ Aside0 (IsS254 w0 w' g x1000_3 x1001_3 x1002_3) ∧ Aside0 (KeepBut w w' g none) ∧ Aside0 (Below w0.heap.size w0 w'))
      case atStart => exact ⟨(0), (t151), (x1001_13), (t153), (by first | rfl | (simp; done) | (simp [*]; done)), H', ⟨Nat.le_refl _⟩, ⟨by repeat (first | (with_reducible first | exact HI0.out | apply IsS254.alloc | apply IsS254.drewN | apply IsS254.drew | apply IsS254.set_0 | apply IsS254.set_1 | apply IsS254.set_2) | exact HI0.out)⟩, ⟨by repeat (first | (with_reducible first | exact HK.out | apply KeepBut.set_ | apply keep_drewN | apply keep_drew | apply keep_alloc) | exact HK.out)⟩, ⟨by repeat (first | (with_reducible first | exact HB.out | apply below_alloc | apply pw_below_drewN | apply below_drew1 | refine below_set ?_ (IsS254.ge HI0.out)) | exact HB.out)⟩⟩
      case round =>
       clear H'
       try clear c1
       try clear p1
       try clear q1
       try clear hx1
       try clear c2
       try clear p2
       try clear c3
       try clear c3b0
       try clear p6
       try clear c9
       try clear c9b0
       try clear c10
       try clear c10b0
       try clear p11
       try clear q11
       try clear hx11
       try clear c15
       try clear hcz12_0
       try clear hcz12_1
       try clear hcz12_2
       try clear hcz13_0
       try clear hcz13_1
       try clear hcz13_2
       try clear hcz16_0
       try clear hcz16_1
       try clear hcz16_2
       try clear hcz17_0
       try clear hcz17_1
       try clear hcz17_2
       try clear hcz5_0
       try clear hcz5_1
       try clear hcz5_2
       try clear hcz8_0
       try clear hcz8_1
       try clear hcz8_2
       try clear hfz12_0
       try clear hfz12_1
       try clear hfz12_2
       try clear hfz13_0
       try clear hfz13_1
       try clear hfz13_2
       try clear hfz16_0
       try clear hfz16_1
       try clear hfz16_2
       try clear hfz17_0
       try clear hfz17_1
       try clear hfz17_2
       try clear hfz5_0
       try clear hfz5_1
       try clear hfz5_2
       try clear hfz8_0
       try clear hfz8_1
       try clear hfz8_2
       try clear p1
       try clear p11
       try clear p2
       try clear p6
       try clear q1
       try clear q11
       obtain ⟨x5_3, x1000_3, x1001_3, x1002_3, rfl, HA, HK3, HI0, HK, HB⟩ := hrel
       cases gk with
       | zero => exact absurd HA.out (by simp [filter_parser_number.l0])
       | succ k3 =>
        have H := HA.out
        clear HA
        simp only [filter_parser_number.l0] at H
        have HC18 := mk0 H
        clear H
        go_upto_region 9 with (fail)
        repeat (go_quiet (fail); go_upto_region 9 with (fail))
        go_cut [72] (fun v72 wc => ∃ (kq : Nat) (x72_17 : Bool), v72 = .bool x72_17 ∧ Aside0 (filter_parser_number.j3 kq t152 x4_13 x5_3 x1001_13 x72_17 x1000_3 x1001_3 x1002_3 = some (r1, r2, r3, r4)) ∧ Aside0 (kq ≤ k3) ∧ Aside0 (IsS254 w0 wc g x1000_3 x1001_3 x1002_3) ∧ Aside0 (KeepBut w wc g none) ∧ Aside0 (Below w0.heap.size w0 wc))
        case first =>
         have H := HC18.out
         clear HC18
         by_cases c19 : x1001_3 < (x1000_3.size : Int)
         ·
          rw [if_pos c19] at H
          have c19b0 : decide (x1001_3 < (x1000_3.size : Int)) = true := decide_eq_true c19
          clear c19
          (first | rw [c19b0] | (simp only [i64_w, i32_w]; rw [c19b0]) | skip)
          by_cases c20 : 0 ≤ x1001_3
          ·
           rw [if_pos c20] at H
           have c20b0 : decide (0 ≤ x1001_3) = true := decide_eq_true c20
           clear c20
           replace H := Option.bind_eq_some_iff.mp H
           obtain ⟨t154, A220, H⟩ := H
           replace H : (filter_parser_number.j3 k3 t152 x4_13 x5_3 x1001_13 t154 x1000_3 x1001_3 x1002_3) = some (r1, r2, r3, r4) := H
           have A22 := mk0 A220
           clear A220
           have H' := mk0 H
           clear H
           obtain ⟨HGz23, hgz23⟩ := HI0.out
           have hcz23_0 := cellS254_0 HGz23
           have hcz23_1 := cellS254_1 HGz23
           have hcz23_2 := cellS254_2 HGz23
           have hfz23_0 := blk_frozen HGz23 0
           have hfz23_1 := blk_frozen HGz23 1
           have hfz23_2 := blk_frozen HGz23 2
           clear HGz23 hgz23
           have p21 : 0 ≤ (x1001_3 : Int) := of_decide_eq_true (by first | (with_reducible assumption) | assumption)
           have q21 : x1001_3 < (x1000_3.size : Int) := of_decide_eq_true (by first | (with_reducible assumption) | assumption)
           have hx21 := bt_at x1000_3 x1001_3
           replace p21 := eq_true p21
           replace q21 := eq_true q21
           go_wp2_with (first | (go_at_call 206; (with_reducible refine (filter_digit.calls (bt x1000_3 x1001_3) t154 _ A22.out).mono ?_); rintro e w' ⟨rfl, ⟨nd, rfl⟩⟩; (try first | exact ⟨rfl, _, World.drewN_drewN _ _ _⟩ | exact ⟨rfl, _, Eq.trans (World.drewN_drewN _ _ _) (congrArg (World.drewN _) (Nat.add_assoc _ _ _))⟩)))
           repeat (go_quiet (first | (go_at_call 206; (with_reducible refine (filter_digit.calls (bt x1000_3 x1001_3) t154 _ A22.out).mono ?_); rintro e w' ⟨rfl, ⟨nd, rfl⟩⟩; (try first | exact ⟨rfl, _, World.drewN_drewN _ _ _⟩ | exact ⟨rfl, _, Eq.trans (World.drewN_drewN _ _ _) (congrArg (World.drewN _) (Nat.add_assoc _ _ _))⟩))); try go_wp2_with (first | (go_at_call 206; (with_reducible refine (filter_digit.calls (bt x1000_3 x1001_3) t154 _ A22.out).mono ?_); rintro e w' ⟨rfl, ⟨nd, rfl⟩⟩; (try first | exact ⟨rfl, _, World.drewN_drewN _ _ _⟩ | exact ⟨rfl, _, Eq.trans (World.drewN_drewN _ _ _) (congrArg (World.drewN _) (Nat.add_assoc _ _ _))⟩))))
           go_meet
           case rel => exact ⟨_, (t154), (by first | rfl | (simp; done) | (simp [*]; done)), H', ⟨by have := HJ5.out; have := HJ13.out; have := HK3.out; first | omega | exact Nat.le_refl _⟩, ⟨by repeat (first | (with_reducible first | exact HI0.out | apply IsS254.alloc | apply IsS254.drewN | apply IsS254.drew | apply IsS254.set_0 | apply IsS254.set_1 | apply IsS254.set_2) | exact HI0.out)⟩, ⟨by repeat (first | (with_reducible first | exact HK.out | apply KeepBut.set_ | apply keep_drewN | apply keep_drew | apply keep_alloc) | exact HK.out)⟩, ⟨by repeat (first | (with_reducible first | exact HB.out | apply below_alloc | apply pw_below_drewN | apply below_drew1 | refine below_set ?_ (IsS254.ge HI0.out)) | exact HB.out)⟩⟩
          ·
           rw [if_neg c20] at H
           exact absurd H (by simp)
         ·
          rw [if_neg c19] at H
          have c19b0 : decide (x1001_3 < (x1000_3.size : Int)) = false := decide_eq_false c19
          clear c19
          (first | rw [c19b0] | (simp only [i64_w, i32_w]; rw [c19b0]) | skip)
          have H' := mk0 H
          clear H
          obtain ⟨HGz24, hgz24⟩ := HI0.out
          have hcz24_0 := cellS254_0 HGz24
          have hcz24_1 := cellS254_1 HGz24
          have hcz24_2 := cellS254_2 HGz24
          have hfz24_0 := blk_frozen HGz24 0
          have hfz24_1 := blk_frozen HGz24 1
          have hfz24_2 := blk_frozen HGz24 2
          clear HGz24 hgz24
          go_wp2
          repeat (go_quiet (fail); try go_wp2)
          go_meet
          case rel => exact ⟨_, (false), (by first | rfl | (simp; done) | (simp [*]; done)), H', ⟨by have := HJ5.out; have := HJ13.out; have := HK3.out; first | omega | exact Nat.le_refl _⟩, ⟨by repeat (first | (with_reducible first | exact HI0.out | apply IsS254.alloc | apply IsS254.drewN | apply IsS254.drew | apply IsS254.set_0 | apply IsS254.set_1 | apply IsS254.set_2) | exact HI0.out)⟩, ⟨by repeat (first | (with_reducible first | exact HK.out | apply KeepBut.set_ | apply keep_drewN | apply keep_drew | apply keep_alloc) | exact HK.out)⟩, ⟨by repeat (first | (with_reducible first | exact HB.out | apply below_alloc | apply pw_below_drewN | apply below_drew1 | refine below_set ?_ (IsS254.ge HI0.out)) | exact HB.out)⟩⟩
        case rest =>
         clear HC18
         try clear c1
         try clear p1
         try clear q1
         try clear hx1
         try clear c2
         try clear p2
         try clear q2
         try clear hx2
         try clear c3
         try clear c3b0
         try clear p6
         try clear c9
         try clear c9b0
         try clear c10
         try clear c10b0
         try clear p11
         try clear q11
         try clear hx11
         try clear c15
         try clear c19
         try clear c19b0
         try clear c20
         try clear c20b0
         try clear p21
         try clear q21
         try clear hx21
         try clear hcz12_0
         try clear hcz12_1
         try clear hcz12_2
         try clear hcz13_0
         try clear hcz13_1
         try clear hcz13_2
         try clear hcz16_0
         try clear hcz16_1
         try clear hcz16_2
         try clear hcz17_0
         try clear hcz17_1
         try clear hcz17_2
         try clear hcz23_0
         try clear hcz23_1
         try clear hcz23_2
         try clear hcz24_0
         try clear hcz24_1
         try clear hcz24_2
         try clear hcz5_0
         try clear hcz5_1
         try clear hcz5_2
         try clear hcz8_0
         try clear hcz8_1
         try clear hcz8_2
         try clear hfz12_0
         try clear hfz12_1
         try clear hfz12_2
         try clear hfz13_0
         try clear hfz13_1
         try clear hfz13_2
         try clear hfz16_0
         try clear hfz16_1
         try clear hfz16_2
         try clear hfz17_0
         try clear hfz17_1
         try clear hfz17_2
         try clear hfz23_0
         try clear hfz23_1
         try clear hfz23_2
         try clear hfz24_0
         try clear hfz24_1
         try clear hfz24_2
         try clear hfz5_0
         try clear hfz5_1
         try clear hfz5_2
         try clear hfz8_0
         try clear hfz8_1
         try clear hfz8_2
         try clear p1
         try clear p11
         try clear p2
         try clear p21
         try clear p6
         try clear q1
         try clear q11
         try clear q21
         obtain ⟨kq, x72_17, rfl, HA, HJ17, HI0, HK, HB⟩ := hcut
         cases kq with
         | zero => exact absurd HA.out (by simp [filter_parser_number.j3])
         | succ kj17 =>
          have H := HA.out
          clear HA
          simp only [filter_parser_number.j3] at H
          by_cases c25 : x72_17 = true
          ·
           subst c25
           have H1 : (if (wrap64 (x1001_3 - x1001_13)) ≥ 10 then ((filter_parser_stop.f x1000_3 x1001_3 x1002_3 t152).bind fun bt155 => (some (0, bt155.1, bt155.2.1, bt155.2.2))) else (if 0 ≤ x1001_3 then (if x1001_3 < (x1000_3.size : Int) then (filter_parser_number.l0 kj17 t152 x4_13 (wrap64 ((wrap64 (10 * x5_3)) + (((bt x1000_3 x1001_3) - 48) % 256))) x1001_13 x1000_3 (wrap64 (x1001_3 + 1)) x1002_3) else (none)) else (none))) = some (r1, r2, r3, r4) := by rw [if_pos rfl] at H; exact H
           clear H
           have H := H1
           clear H1
           by_cases c26 : (wrap64 (x1001_3 - x1001_13)) ≥ 10
           ·
            rw [if_pos c26] at H
            have c26b0 : decide (10 ≤ (wrap64 (x1001_3 - x1001_13))) = true := decide_eq_true c26
            clear c26
            replace H := Option.bind_eq_some_iff.mp H
            obtain ⟨⟨t155, t156, t157⟩, A270, H⟩ := H
            replace H : (some (0, t155, t156, t157)) = some (r1, r2, r3, r4) := H
            have A27 := mk0 A270
            clear A270
            simp only [Option.some.injEq, Prod.mk.injEq] at H
            obtain ⟨rfl, rfl, rfl, rfl⟩ := H
            obtain ⟨HGz28, hgz28⟩ := HI0.out
            have hcz28_0 := cellS254_0 HGz28
            have hcz28_1 := cellS254_1 HGz28
            have hcz28_2 := cellS254_2 HGz28
            have hfz28_0 := blk_frozen HGz28 0
            have hfz28_1 := blk_frozen HGz28 1
            have hfz28_2 := blk_frozen HGz28 2
            clear HGz28 hgz28
            go_wp2_with (first | (go_at_call 146; (with_reducible refine (filter_parser_stop.calls g x1000_3 x1001_3 x1002_3 t152 t155 t156 t157 w0 _ ?side1 ?side2 A27.out).mono ?_); (case side1 => repeat (first | (with_reducible first | exact HI0.out | apply IsS254.alloc | apply IsS254.drewN | apply IsS254.drew | apply IsS254.set_0 | apply IsS254.set_1 | apply IsS254.set_2) | exact HI0.out)); (case side2 => repeat (first | (with_reducible first | exact HB.out | apply below_alloc | apply pw_below_drewN | apply below_drew1 | refine below_set ?_ (IsS254.ge HI0.out)) | exact HB.out)); rintro e w29 ⟨rfl, hi, hb, hk⟩; have n0_ := mk0 (KeepBut.trans (by repeat (first | (with_reducible first | exact HK.out | apply KeepBut.set_ | apply keep_drewN | apply keep_drew | apply keep_alloc) | exact HK.out)) hk (.inl rfl)); have n1_ := mk0 (hb); have n2_ := mk0 (hi); clear HK; clear HB; clear HI0; have HK := n0_; have HB := n1_; have HI0 := n2_; clear n0_ n1_ n2_; (try clear hb); (try clear hb2); (try clear hk); (try clear hi)))
            repeat (go_quiet (first | (go_at_call 146; (with_reducible refine (filter_parser_stop.calls g x1000_3 x1001_3 x1002_3 t152 t155 t156 t157 w0 _ ?side1 ?side2 A27.out).mono ?_); (case side1 => repeat (first | (with_reducible first | exact HI0.out | apply IsS254.alloc | apply IsS254.drewN | apply IsS254.drew | apply IsS254.set_0 | apply IsS254.set_1 | apply IsS254.set_2) | exact HI0.out)); (case side2 => repeat (first | (with_reducible first | exact HB.out | apply below_alloc | apply pw_below_drewN | apply below_drew1 | refine below_set ?_ (IsS254.ge HI0.out)) | exact HB.out)); rintro e w29 ⟨rfl, hi, hb, hk⟩; have n0_ := mk0 (KeepBut.trans (by repeat (first | (with_reducible first | exact HK.out | apply KeepBut.set_ | apply keep_drewN | apply keep_drew | apply keep_alloc) | exact HK.out)) hk (.inl rfl)); have n1_ := mk0 (hb); have n2_ := mk0 (hi); clear HK; clear HB; clear HI0; have HK := n0_; have HB := n1_; have HI0 := n2_; clear n0_ n1_ n2_; (try clear hb); (try clear hb2); (try clear hk); (try clear hi))); try go_wp2_with (first | (go_at_call 146; (with_reducible refine (filter_parser_stop.calls g x1000_3 x1001_3 x1002_3 t152 t155 t156 t157 w0 _ ?side1 ?side2 A27.out).mono ?_); (case side1 => repeat (first | (with_reducible first | exact HI0.out | apply IsS254.alloc | apply IsS254.drewN | apply IsS254.drew | apply IsS254.set_0 | apply IsS254.set_1 | apply IsS254.set_2) | exact HI0.out)); (case side2 => repeat (first | (with_reducible first | exact HB.out | apply below_alloc | apply pw_below_drewN | apply below_drew1 | refine below_set ?_ (IsS254.ge HI0.out)) | exact HB.out)); rintro e w29 ⟨rfl, hi, hb, hk⟩; have n0_ := mk0 (KeepBut.trans (by repeat (first | (with_reducible first | exact HK.out | apply KeepBut.set_ | apply keep_drewN | apply keep_drew | apply keep_alloc) | exact HK.out)) hk (.inl rfl)); have n1_ := mk0 (hb); have n2_ := mk0 (hi); clear HK; clear HB; clear HI0; have HK := n0_; have HB := n1_; have HI0 := n2_; clear n0_ n1_ n2_; (try clear hb); (try clear hb2); (try clear hk); (try clear hi))))
            go_ret
            exact ⟨by first | rfl | (simp [errW_none, errW_some] <;> rfl) | (simp [*, errW_none, errW_some] <;> rfl), by repeat (first | (with_reducible first | exact HI0.out | apply IsS254.alloc | apply IsS254.drewN | apply IsS254.drew | apply IsS254.set_0 | apply IsS254.set_1 | apply IsS254.set_2) | exact HI0.out), by repeat (first | (with_reducible first | exact HB.out | apply below_alloc | apply pw_below_drewN | apply below_drew1 | refine below_set ?_ (IsS254.ge HI0.out)) | exact HB.out), by repeat (first | (with_reducible first | exact HK.out | apply KeepBut.set_ | apply keep_drewN | apply keep_drew | apply keep_alloc) | exact HK.out)⟩
           ·
            rw [if_neg c26] at H
            have c26b0 : decide (10 ≤ (wrap64 (x1001_3 - x1001_13))) = false := decide_eq_false c26
            clear c26
            by_cases c30 : 0 ≤ x1001_3
            ·
             rw [if_pos c30] at H
             have c30b0 : decide (0 ≤ x1001_3) = true := decide_eq_true c30
             clear c30
             by_cases c31 : x1001_3 < (x1000_3.size : Int)
             ·
              rw [if_pos c31] at H
              have c31b0 : decide (x1001_3 < (x1000_3.size : Int)) = true := decide_eq_true c31
              clear c31
              have H' := mk0 H
              clear H
              obtain ⟨HGz33, hgz33⟩ := HI0.out
              have hcz33_0 := cellS254_0 HGz33
              have hcz33_1 := cellS254_1 HGz33
              have hcz33_2 := cellS254_2 HGz33
              have hfz33_0 := blk_frozen HGz33 0
              have hfz33_1 := blk_frozen HGz33 1
              have hfz33_2 := blk_frozen HGz33 2
              clear HGz33 hgz33
              have p32 : 0 ≤ (x1001_3 : Int) := of_decide_eq_true (by first | (with_reducible assumption) | assumption)
              have q32 : x1001_3 < (x1000_3.size : Int) := of_decide_eq_true (by first | (with_reducible assumption) | assumption)
              have hx32 := bt_at x1000_3 x1001_3
              replace p32 := eq_true p32
              replace q32 := eq_true q32
              go_wp2
              repeat (go_quiet (fail); try go_wp2)
              go_roundg kj17
              case measure => have := HJ5.out; have := HJ13.out; have := HK3.out; have := HJ17.out; omega
              case rel => exact ⟨(wrap64 ((wrap64 (10 * x5_3)) + (((bt x1000_3 x1001_3) - 48) % 256))), (x1000_3), (wrap64 (x1001_3 + 1)), (x1002_3), (by first | rfl | (simp; done) | (simp [*]; done)), H', ⟨by have := HJ5.out; have := HJ13.out; have := HK3.out; have := HJ17.out; omega⟩, ⟨by repeat (first | (with_reducible first | exact HI0.out | apply IsS254.alloc | apply IsS254.drewN | apply IsS254.drew | apply IsS254.set_0 | apply IsS254.set_1 | apply IsS254.set_2) | exact HI0.out)⟩, ⟨by repeat (first | (with_reducible first | exact HK.out | apply KeepBut.set_ | apply keep_drewN | apply keep_drew | apply keep_alloc) | exact HK.out)⟩, ⟨by repeat (first | (with_reducible first | exact HB.out | apply below_alloc | apply pw_below_drewN | apply below_drew1 | refine below_set ?_ (IsS254.ge HI0.out)) | exact HB.out)⟩⟩
             ·
              rw [if_neg c31] at H
              exact absurd H (by simp)
            ·
             rw [if_neg c30] at H
             exact absurd H (by simp)
          ·
           replace c25 := Bool.eq_false_iff.mpr c25
           subst c25
           have H1 : (if x1001_3 = x1001_13 then ((filter_parser_stop.f x1000_3 x1001_3 x1002_3 t152).bind fun bt158 => (some (wrap64 (x4_13 * x5_3), bt158.1, bt158.2.1, bt158.2.2))) else (if (wrap64 (x1001_3 - x1001_13)) > 1 then (if 0 ≤ x1001_13 then (if x1001_13 < (x1000_3.size : Int) then (if (bt x1000_3 x1001_13) = 48 then ((filter_parser_stop.f x1000_3 x1001_3 x1002_3 t152).bind fun bt161 => (some (wrap64 (x4_13 * x5_3), bt161.1, bt161.2.1, bt161.2.2))) else (if x4_13 < 0 then (if x5_3 = 0 then ((filter_parser_stop.f x1000_3 x1001_3 x1002_3 t152).bind fun bt164 => (some (wrap64 (x4_13 * x5_3), bt164.1, bt164.2.1, bt164.2.2))) else (some (wrap64 (x4_13 * x5_3), x1000_3, x1001_3, x1002_3))) else (some (wrap64 (x4_13 * x5_3), x1000_3, x1001_3, x1002_3)))) else (none)) else (none)) else (if x4_13 < 0 then (if x5_3 = 0 then ((filter_parser_stop.f x1000_3 x1001_3 x1002_3 t152).bind fun bt167 => (some (wrap64 (x4_13 * x5_3), bt167.1, bt167.2.1, bt167.2.2))) else (some (wrap64 (x4_13 * x5_3), x1000_3, x1001_3, x1002_3))) else (some (wrap64 (x4_13 * x5_3), x1000_3, x1001_3, x1002_3))))) = some (r1, r2, r3, r4) := by rw [if_neg (show ¬ (false = true) by decide)] at H; exact H
           clear H
           have H := H1
           clear H1
           by_cases c34 : x1001_3 = x1001_13
           ·
            rw [if_pos c34] at H
            have c34b0 : (x1001_3 == x1001_13) = true := beq_iff_eq.mpr c34
            have c34b1 : (x1001_3 != x1001_13) = false := bne_eq_false_iff_eq.mpr c34
            clear c34
            replace H := Option.bind_eq_some_iff.mp H
            obtain ⟨⟨t158, t159, t160⟩, A350, H⟩ := H
            replace H : (some (wrap64 (x4_13 * x5_3), t158, t159, t160)) = some (r1, r2, r3, r4) := H
            have A35 := mk0 A350
            clear A350
            simp only [Option.some.injEq, Prod.mk.injEq] at H
            obtain ⟨rfl, rfl, rfl, rfl⟩ := H
            obtain ⟨HGz36, hgz36⟩ := HI0.out
            have hcz36_0 := cellS254_0 HGz36
            have hcz36_1 := cellS254_1 HGz36
            have hcz36_2 := cellS254_2 HGz36
            have hfz36_0 := blk_frozen HGz36 0
            have hfz36_1 := blk_frozen HGz36 1
            have hfz36_2 := blk_frozen HGz36 2
            clear HGz36 hgz36
            go_wp2_with (first | (go_at_call 146; (with_reducible refine (filter_parser_stop.calls g x1000_3 x1001_3 x1002_3 t152 t158 t159 t160 w0 _ ?side1 ?side2 A35.out).mono ?_); (case side1 => repeat (first | (with_reducible first | exact HI0.out | apply IsS254.alloc | apply IsS254.drewN | apply IsS254.drew | apply IsS254.set_0 | apply IsS254.set_1 | apply IsS254.set_2) | exact HI0.out)); (case side2 => repeat (first | (with_reducible first | exact HB.out | apply below_alloc | apply pw_below_drewN | apply below_drew1 | refine below_set ?_ (IsS254.ge HI0.out)) | exact HB.out)); rintro e w37 ⟨rfl, hi, hb, hk⟩; have n0_ := mk0 (KeepBut.trans (by repeat (first | (with_reducible first | exact HK.out | apply KeepBut.set_ | apply keep_drewN | apply keep_drew | apply keep_alloc) | exact HK.out)) hk (.inl rfl)); have n1_ := mk0 (hb); have n2_ := mk0 (hi); clear HK; clear HB; clear HI0; have HK := n0_; have HB := n1_; have HI0 := n2_; clear n0_ n1_ n2_; (try clear hb); (try clear hb2); (try clear hk); (try clear hi)))
            repeat (go_quiet (first | (go_at_call 146; (with_reducible refine (filter_parser_stop.calls g x1000_3 x1001_3 x1002_3 t152 t158 t159 t160 w0 _ ?side1 ?side2 A35.out).mono ?_); (case side1 => repeat (first | (with_reducible first | exact HI0.out | apply IsS254.alloc | apply IsS254.drewN | apply IsS254.drew | apply IsS254.set_0 | apply IsS254.set_1 | apply IsS254.set_2) | exact HI0.out)); (case side2 => repeat (first | (with_reducible first | exact HB.out | apply below_alloc | apply pw_below_drewN | apply below_drew1 | refine below_set ?_ (IsS254.ge HI0.out)) | exact HB.out)); rintro e w37 ⟨rfl, hi, hb, hk⟩; have n0_ := mk0 (KeepBut.trans (by repeat (first | (with_reducible first | exact HK.out | apply KeepBut.set_ | apply keep_drewN | apply keep_drew | apply keep_alloc) | exact HK.out)) hk (.inl rfl)); have n1_ := mk0 (hb); have n2_ := mk0 (hi); clear HK; clear HB; clear HI0; have HK := n0_; have HB := n1_; have HI0 := n2_; clear n0_ n1_ n2_; (try clear hb); (try clear hb2); (try clear hk); (try clear hi))); try go_wp2_with (first | (go_at_call 146; (with_reducible refine (filter_parser_stop.calls g x1000_3 x1001_3 x1002_3 t152 t158 t159 t160 w0 _ ?side1 ?side2 A35.out).mono ?_); (case side1 => repeat (first | (with_reducible first | exact HI0.out | apply IsS254.alloc | apply IsS254.drewN | apply IsS254.drew | apply IsS254.set_0 | apply IsS254.set_1 | apply IsS254.set_2) | exact HI0.out)); (case side2 => repeat (first | (with_reducible first | exact HB.out | apply below_alloc | apply pw_below_drewN | apply below_drew1 | refine below_set ?_ (IsS254.ge HI0.out)) | exact HB.out)); rintro e w37 ⟨rfl, hi, hb, hk⟩; have n0_ := mk0 (KeepBut.trans (by repeat (first | (with_reducible first | exact HK.out | apply KeepBut.set_ | apply keep_drewN | apply keep_drew | apply keep_alloc) | exact HK.out)) hk (.inl rfl)); have n1_ := mk0 (hb); have n2_ := mk0 (hi); clear HK; clear HB; clear HI0; have HK := n0_; have HB := n1_; have HI0 := n2_; clear n0_ n1_ n2_; (try clear hb); (try clear hb2); (try clear hk); (try clear hi))))
            go_ret
            exact ⟨by first | rfl | (simp [errW_none, errW_some] <;> rfl) | (simp [*, errW_none, errW_some] <;> rfl), by repeat (first | (with_reducible first | exact HI0.out | apply IsS254.alloc | apply IsS254.drewN | apply IsS254.drew | apply IsS254.set_0 | apply IsS254.set_1 | apply IsS254.set_2) | exact HI0.out), by repeat (first | (with_reducible first | exact HB.out | apply below_alloc | apply pw_below_drewN | apply below_drew1 | refine below_set ?_ (IsS254.ge HI0.out)) | exact HB.out), by repeat (first | (with_reducible first | exact HK.out | apply KeepBut.set_ | apply keep_drewN | apply keep_drew | apply keep_alloc) | exact HK.out)⟩
           ·
            rw [if_neg c34] at H
            have c34b0 : (x1001_3 == x1001_13) = false := beq_eq_false_iff_ne.mpr c34
            have c34b1 : (x1001_3 != x1001_13) = true := bne_iff_ne.mpr c34
            by_cases c38 : (wrap64 (x1001_3 - x1001_13)) > 1
            ·
             rw [if_pos c38] at H
             have c38b0 : decide (1 < (wrap64 (x1001_3 - x1001_13))) = true := decide_eq_true c38
             clear c38
             by_cases c39 : 0 ≤ x1001_13
             ·
              rw [if_pos c39] at H
              have c39b0 : decide (0 ≤ x1001_13) = true := decide_eq_true c39
              clear c39
              by_cases c40 : x1001_13 < (x1000_3.size : Int)
              ·
               rw [if_pos c40] at H
               have c40b0 : decide (x1001_13 < (x1000_3.size : Int)) = true := decide_eq_true c40
               clear c40
               by_cases c42 : (bt x1000_3 x1001_13) = 48
               ·
                rw [if_pos c42] at H
                have c42b0 : ((bt x1000_3 x1001_13) == 48) = true := beq_iff_eq.mpr c42
                have c42b1 : ((bt x1000_3 x1001_13) != 48) = false := bne_eq_false_iff_eq.mpr c42
                clear c42
                replace H := Option.bind_eq_some_iff.mp H
                obtain ⟨⟨t161, t162, t163⟩, A430, H⟩ := H
                replace H : (some (wrap64 (x4_13 * x5_3), t161, t162, t163)) = some (r1, r2, r3, r4) := H
                have A43 := mk0 A430
                clear A430
                simp only [Option.some.injEq, Prod.mk.injEq] at H
                obtain ⟨rfl, rfl, rfl, rfl⟩ := H
                obtain ⟨HGz44, hgz44⟩ := HI0.out
                have hcz44_0 := cellS254_0 HGz44
                have hcz44_1 := cellS254_1 HGz44
                have hcz44_2 := cellS254_2 HGz44
                have hfz44_0 := blk_frozen HGz44 0
                have hfz44_1 := blk_frozen HGz44 1
                have hfz44_2 := blk_frozen HGz44 2
                clear HGz44 hgz44
                have p41 : 0 ≤ (x1001_13 : Int) := of_decide_eq_true (by first | (with_reducible assumption) | assumption)
                have q41 : x1001_13 < (x1000_3.size : Int) := of_decide_eq_true (by first | (with_reducible assumption) | assumption)
                have hx41 := bt_at x1000_3 x1001_13
                replace p41 := eq_true p41
                replace q41 := eq_true q41
                go_wp2_with (first | (go_at_call 146; (with_reducible refine (filter_parser_stop.calls g x1000_3 x1001_3 x1002_3 t152 t161 t162 t163 w0 _ ?side1 ?side2 A43.out).mono ?_); (case side1 => repeat (first | (with_reducible first | exact HI0.out | apply IsS254.alloc | apply IsS254.drewN | apply IsS254.drew | apply IsS254.set_0 | apply IsS254.set_1 | apply IsS254.set_2) | exact HI0.out)); (case side2 => repeat (first | (with_reducible first | exact HB.out | apply below_alloc | apply pw_below_drewN | apply below_drew1 | refine below_set ?_ (IsS254.ge HI0.out)) | exact HB.out)); rintro e w45 ⟨rfl, hi, hb, hk⟩; have n0_ := mk0 (KeepBut.trans (by repeat (first | (with_reducible first | exact HK.out | apply KeepBut.set_ | apply keep_drewN | apply keep_drew | apply keep_alloc) | exact HK.out)) hk (.inl rfl)); have n1_ := mk0 (hb); have n2_ := mk0 (hi); clear HK; clear HB; clear HI0; have HK := n0_; have HB := n1_; have HI0 := n2_; clear n0_ n1_ n2_; (try clear hb); (try clear hb2); (try clear hk); (try clear hi)))
                repeat (go_quiet (first | (go_at_call 146; (with_reducible refine (filter_parser_stop.calls g x1000_3 x1001_3 x1002_3 t152 t161 t162 t163 w0 _ ?side1 ?side2 A43.out).mono ?_); (case side1 => repeat (first | (with_reducible first | exact HI0.out | apply IsS254.alloc | apply IsS254.drewN | apply IsS254.drew | apply IsS254.set_0 | apply IsS254.set_1 | apply IsS254.set_2) | exact HI0.out)); (case side2 => repeat (first | (with_reducible first | exact HB.out | apply below_alloc | apply pw_below_drewN | apply below_drew1 | refine below_set ?_ (IsS254.ge HI0.out)) | exact HB.out)); rintro e w45 ⟨rfl, hi, hb, hk⟩; have n0_ := mk0 (KeepBut.trans (by repeat (first | (with_reducible first | exact HK.out | apply KeepBut.set_ | apply keep_drewN | apply keep_drew | apply keep_alloc) | exact HK.out)) hk (.inl rfl)); have n1_ := mk0 (hb); have n2_ := mk0 (hi); clear HK; clear HB; clear HI0; have HK := n0_; have HB := n1_; have HI0 := n2_; clear n0_ n1_ n2_; (try clear hb); (try clear hb2); (try clear hk); (try clear hi))); try go_wp2_with (first | (go_at_call 146; (with_reducible refine (filter_parser_stop.calls g x1000_3 x1001_3 x1002_3 t152 t161 t162 t163 w0 _ ?side1 ?side2 A43.out).mono ?_); (case side1 => repeat (first | (with_reducible first | exact HI0.out | apply IsS254.alloc | apply IsS254.drewN | apply IsS254.drew | apply IsS254.set_0 | apply IsS254.set_1 | apply IsS254.set_2) | exact HI0.out)); (case side2 => repeat (first | (with_reducible first | exact HB.out | apply below_alloc | apply pw_below_drewN | apply below_drew1 | refine below_set ?_ (IsS254.ge HI0.out)) | exact HB.out)); rintro e w45 ⟨rfl, hi, hb, hk⟩; have n0_ := mk0 (KeepBut.trans (by repeat (first | (with_reducible first | exact HK.out | apply KeepBut.set_ | apply keep_drewN | apply keep_drew | apply keep_alloc) | exact HK.out)) hk (.inl rfl)); have n1_ := mk0 (hb); have n2_ := mk0 (hi); clear HK; clear HB; clear HI0; have HK := n0_; have HB := n1_; have HI0 := n2_; clear n0_ n1_ n2_; (try clear hb); (try clear hb2); (try clear hk); (try clear hi))))
                go_ret
                exact ⟨by first | rfl | (simp [errW_none, errW_some] <;> rfl) | (simp [*, errW_none, errW_some] <;> rfl), by repeat (first | (with_reducible first | exact HI0.out | apply IsS254.alloc | apply IsS254.drewN | apply IsS254.drew | apply IsS254.set_0 | apply IsS254.set_1 | apply IsS254.set_2) | exact HI0.out), by repeat (first | (with_reducible first | exact HB.out | apply below_alloc | apply pw_below_drewN | apply below_drew1 | refine below_set ?_ (IsS254.ge HI0.out)) | exact HB.out), by repeat (first | (with_reducible first | exact HK.out | apply KeepBut.set_ | apply keep_drewN | apply keep_drew | apply keep_alloc) | exact HK.out)⟩
               ·
                rw [if_neg c42] at H
                have c42b0 : ((bt x1000_3 x1001_13) == 48) = false := beq_eq_false_iff_ne.mpr c42
                have c42b1 : ((bt x1000_3 x1001_13) != 48) = true := bne_iff_ne.mpr c42
                by_cases c46 : x4_13 < 0
                ·
                 rw [if_pos c46] at H
                 have c46b0 : decide (x4_13 < 0) = true := decide_eq_true c46
                 clear c46
                 by_cases c47 : x5_3 = 0
                 ·
                  rw [if_pos c47] at H
                  have c47b0 : (x5_3 == 0) = true := beq_iff_eq.mpr c47
                  have c47b1 : (x5_3 != 0) = false := bne_eq_false_iff_eq.mpr c47
                  clear c47
                  replace H := Option.bind_eq_some_iff.mp H
                  obtain ⟨⟨t164, t165, t166⟩, A480, H⟩ := H
                  replace H : (some (wrap64 (x4_13 * x5_3), t164, t165, t166)) = some (r1, r2, r3, r4) := H
                  have A48 := mk0 A480
                  clear A480
                  simp only [Option.some.injEq, Prod.mk.injEq] at H
                  obtain ⟨rfl, rfl, rfl, rfl⟩ := H
                  obtain ⟨HGz49, hgz49⟩ := HI0.out
                  have hcz49_0 := cellS254_0 HGz49
                  have hcz49_1 := cellS254_1 HGz49
                  have hcz49_2 := cellS254_2 HGz49
                  have hfz49_0 := blk_frozen HGz49 0
                  have hfz49_1 := blk_frozen HGz49 1
                  have hfz49_2 := blk_frozen HGz49 2
                  clear HGz49 hgz49
                  have p41 : 0 ≤ (x1001_13 : Int) := of_decide_eq_true (by first | (with_reducible assumption) | assumption)
                  have q41 : x1001_13 < (x1000_3.size : Int) := of_decide_eq_true (by first | (with_reducible assumption) | assumption)
                  have hx41 := bt_at x1000_3 x1001_13
                  replace p41 := eq_true p41
                  replace q41 := eq_true q41
                  go_wp2_with (first | (go_at_call 146; (with_reducible refine (filter_parser_stop.calls g x1000_3 x1001_3 x1002_3 t152 t164 t165 t166 w0 _ ?side1 ?side2 A48.out).mono ?_); (case side1 => repeat (first | (with_reducible first | exact HI0.out | apply IsS254.alloc | apply IsS254.drewN | apply IsS254.drew | apply IsS254.set_0 | apply IsS254.set_1 | apply IsS254.set_2) | exact HI0.out)); (case side2 => repeat (first | (with_reducible first | exact HB.out | apply below_alloc | apply pw_below_drewN | apply below_drew1 | refine below_set ?_ (IsS254.ge HI0.out)) | exact HB.out)); rintro e w50 ⟨rfl, hi, hb, hk⟩; have n0_ := mk0 (KeepBut.trans (by repeat (first | (with_reducible first | exact HK.out | apply KeepBut.set_ | apply keep_drewN | apply keep_drew | apply keep_alloc) | exact HK.out)) hk (.inl rfl)); have n1_ := mk0 (hb); have n2_ := mk0 (hi); clear HK; clear HB; clear HI0; have HK := n0_; have HB := n1_; have HI0 := n2_; clear n0_ n1_ n2_; (try clear hb); (try clear hb2); (try clear hk); (try clear hi)))
                  repeat (go_quiet (first | (go_at_call 146; (with_reducible refine (filter_parser_stop.calls g x1000_3 x1001_3 x1002_3 t152 t164 t165 t166 w0 _ ?side1 ?side2 A48.out).mono ?_); (case side1 => repeat (first | (with_reducible first | exact HI0.out | apply IsS254.alloc | apply IsS254.drewN | apply IsS254.drew | apply IsS254.set_0 | apply IsS254.set_1 | apply IsS254.set_2) | exact HI0.out)); (case side2 => repeat (first | (with_reducible first | exact HB.out | apply below_alloc | apply pw_below_drewN | apply below_drew1 | refine below_set ?_ (IsS254.ge HI0.out)) | exact HB.out)); rintro e w50 ⟨rfl, hi, hb, hk⟩; have n0_ := mk0 (KeepBut.trans (by repeat (first | (with_reducible first | exact HK.out | apply KeepBut.set_ | apply keep_drewN | apply keep_drew | apply keep_alloc) | exact HK.out)) hk (.inl rfl)); have n1_ := mk0 (hb); have n2_ := mk0 (hi); clear HK; clear HB; clear HI0; have HK := n0_; have HB := n1_; have HI0 := n2_; clear n0_ n1_ n2_; (try clear hb); (try clear hb2); (try clear hk); (try clear hi))); try go_wp2_with (first | (go_at_call 146; (with_reducible refine (filter_parser_stop.calls g x1000_3 x1001_3 x1002_3 t152 t164 t165 t166 w0 _ ?side1 ?side2 A48.out).mono ?_); (case side1 => repeat (first | (with_reducible first | exact HI0.out | apply IsS254.alloc | apply IsS254.drewN | apply IsS254.drew | apply IsS254.set_0 | apply IsS254.set_1 | apply IsS254.set_2) | exact HI0.out)); (case side2 => repeat (first | (with_reducible first | exact HB.out | apply below_alloc | apply pw_below_drewN | apply below_drew1 | refine below_set ?_ (IsS254.ge HI0.out)) | exact HB.out)); rintro e w50 ⟨rfl, hi, hb, hk⟩; have n0_ := mk0 (KeepBut.trans (by repeat (first | (with_reducible first | exact HK.out | apply KeepBut.set_ | apply keep_drewN | apply keep_drew | apply keep_alloc) | exact HK.out)) hk (.inl rfl)); have n1_ := mk0 (hb); have n2_ := mk0 (hi); clear HK; clear HB; clear HI0; have HK := n0_; have HB := n1_; have HI0 := n2_; clear n0_ n1_ n2_; (try clear hb); (try clear hb2); (try clear hk); (try clear hi))))
                  go_ret
                  exact ⟨by first | rfl | (simp [errW_none, errW_some] <;> rfl) | (simp [*, errW_none, errW_some] <;> rfl), by repeat (first | (with_reducible first | exact HI0.out | apply IsS254.alloc | apply IsS254.drewN | apply IsS254.drew | apply IsS254.set_0 | apply IsS254.set_1 | apply IsS254.set_2) | exact HI0.out), by repeat (first | (with_reducible first | exact HB.out | apply below_alloc | apply pw_below_drewN | apply below_drew1 | refine below_set ?_ (IsS254.ge HI0.out)) | exact HB.out), by repeat (first | (with_reducible first | exact HK.out | apply KeepBut.set_ | apply keep_drewN | apply keep_drew | apply keep_alloc) | exact HK.out)⟩
                 ·
                  rw [if_neg c47] at H
                  have c47b0 : (x5_3 == 0) = false := beq_eq_false_iff_ne.mpr c47
                  have c47b1 : (x5_3 != 0) = true := bne_iff_ne.mpr c47
                  simp only [Option.some.injEq, Prod.mk.injEq] at H
                  obtain ⟨rfl, rfl, rfl, rfl⟩ := H
                  obtain ⟨HGz51, hgz51⟩ := HI0.out
                  have hcz51_0 := cellS254_0 HGz51
                  have hcz51_1 := cellS254_1 HGz51
                  have hcz51_2 := cellS254_2 HGz51
                  have hfz51_0 := blk_frozen HGz51 0
                  have hfz51_1 := blk_frozen HGz51 1
                  have hfz51_2 := blk_frozen HGz51 2
                  clear HGz51 hgz51
                  have p41 : 0 ≤ (x1001_13 : Int) := of_decide_eq_true (by first | (with_reducible assumption) | assumption)
                  have q41 : x1001_13 < (x1000_3.size : Int) := of_decide_eq_true (by first | (with_reducible assumption) | assumption)
                  have hx41 := bt_at x1000_3 x1001_13
                  replace p41 := eq_true p41
                  replace q41 := eq_true q41
                  go_wp2
                  repeat (go_quiet (fail); try go_wp2)
                  go_ret
                  exact ⟨by first | rfl | (simp [errW_none, errW_some] <;> rfl) | (simp [*, errW_none, errW_some] <;> rfl), by repeat (first | (with_reducible first | exact HI0.out | apply IsS254.alloc | apply IsS254.drewN | apply IsS254.drew | apply IsS254.set_0 | apply IsS254.set_1 | apply IsS254.set_2) | exact HI0.out), by repeat (first | (with_reducible first | exact HB.out | apply below_alloc | apply pw_below_drewN | apply below_drew1 | refine below_set ?_ (IsS254.ge HI0.out)) | exact HB.out), by repeat (first | (with_reducible first | exact HK.out | apply KeepBut.set_ | apply keep_drewN | apply keep_drew | apply keep_alloc) | exact HK.out)⟩
                ·
                 rw [if_neg c46] at H
                 have c46b0 : decide (x4_13 < 0) = false := decide_eq_false c46
                 clear c46
                 simp only [Option.some.injEq, Prod.mk.injEq] at H
                 obtain ⟨rfl, rfl, rfl, rfl⟩ := H
                 obtain ⟨HGz52, hgz52⟩ := HI0.out
                 have hcz52_0 := cellS254_0 HGz52
                 have hcz52_1 := cellS254_1 HGz52
                 have hcz52_2 := cellS254_2 HGz52
                 have hfz52_0 := blk_frozen HGz52 0
                 have hfz52_1 := blk_frozen HGz52 1
                 have hfz52_2 := blk_frozen HGz52 2
                 clear HGz52 hgz52
                 have p41 : 0 ≤ (x1001_13 : Int) := of_decide_eq_true (by first | (with_reducible assumption) | assumption)
                 have q41 : x1001_13 < (x1000_3.size : Int) := of_decide_eq_true (by first | (with_reducible assumption) | assumption)
                 have hx41 := bt_at x1000_3 x1001_13
                 replace p41 := eq_true p41
                 replace q41 := eq_true q41
                 go_wp2
                 repeat (go_quiet (fail); try go_wp2)
                 go_ret
                 exact ⟨by first | rfl | (simp [errW_none, errW_some] <;> rfl) | (simp [*, errW_none, errW_some] <;> rfl), by repeat (first | (with_reducible first | exact HI0.out | apply IsS254.alloc | apply IsS254.drewN | apply IsS254.drew | apply IsS254.set_0 | apply IsS254.set_1 | apply IsS254.set_2) | exact HI0.out), by repeat (first | (with_reducible first | exact HB.out | apply below_alloc | apply pw_below_drewN | apply below_drew1 | refine below_set ?_ (IsS254.ge HI0.out)) | exact HB.out), by repeat (first | (with_reducible first | exact HK.out | apply KeepBut.set_ | apply keep_drewN | apply keep_drew | apply keep_alloc) | exact HK.out)⟩
              ·
               rw [if_neg c40] at H
               exact absurd H (by simp)
             ·
              rw [if_neg c39] at H
              exact absurd H (by simp)
            ·
             rw [if_neg c38] at H
             have c38b0 : decide (1 < (wrap64 (x1001_3 - x1001_13))) = false := decide_eq_false c38
             clear c38
             by_cases c53 : x4_13 < 0
             ·
              rw [if_pos c53] at H
              have c53b0 : decide (x4_13 < 0) = true := decide_eq_true c53
              clear c53
              by_cases c54 : x5_3 = 0
              ·
               rw [if_pos c54] at H
               have c54b0 : (x5_3 == 0) = true := beq_iff_eq.mpr c54
               have c54b1 : (x5_3 != 0) = false := bne_eq_false_iff_eq.mpr c54
               clear c54
               replace H := Option.bind_eq_some_iff.mp H
               obtain ⟨⟨t167, t168, t169⟩, A550, H⟩ := H
               replace H : (some (wrap64 (x4_13 * x5_3), t167, t168, t169)) = some (r1, r2, r3, r4) := H
               have A55 := mk0 A550
               clear A550
               simp only [Option.some.injEq, Prod.mk.injEq] at H
               obtain ⟨rfl, rfl, rfl, rfl⟩ := H
               obtain ⟨HGz56, hgz56⟩ := HI0.out
               have hcz56_0 := cellS254_0 HGz56
               have hcz56_1 := cellS254_1 HGz56
               have hcz56_2 := cellS254_2 HGz56
               have hfz56_0 := blk_frozen HGz56 0
               have hfz56_1 := blk_frozen HGz56 1
               have hfz56_2 := blk_frozen HGz56 2
               clear HGz56 hgz56
               go_wp2_with (first | (go_at_call 146; (with_reducible refine (filter_parser_stop.calls g x1000_3 x1001_3 x1002_3 t152 t167 t168 t169 w0 _ ?side1 ?side2 A55.out).mono ?_); (case side1 => repeat (first | (with_reducible first | exact HI0.out | apply IsS254.alloc | apply IsS254.drewN | apply IsS254.drew | apply IsS254.set_0 | apply IsS254.set_1 | apply IsS254.set_2) | exact HI0.out)); (case side2 => repeat (first | (with_reducible first | exact HB.out | apply below_alloc | apply pw_below_drewN | apply below_drew1 | refine below_set ?_ (IsS254.ge HI0.out)) | exact HB.out)); rintro e w57 ⟨rfl, hi, hb, hk⟩; have n0_ := mk0 (KeepBut.trans (by repeat (first | (with_reducible first | exact HK.out | apply KeepBut.set_ | apply keep_drewN | apply keep_drew | apply keep_alloc) | exact HK.out)) hk (.inl rfl)); have n1_ := mk0 (hb); have n2_ := mk0 (hi); clear HK; clear HB; clear HI0; have HK := n0_; have HB := n1_; have HI0 := n2_; clear n0_ n1_ n2_; (try clear hb); (try clear hb2); (try clear hk); (try clear hi)))
               repeat (go_quiet (first | (go_at_call 146; (with_reducible refine (filter_parser_stop.calls g x1000_3 x1001_3 x1002_3 t152 t167 t168 t169 w0 _ ?side1 ?side2 A55.out).mono ?_); (case side1 => repeat (first | (with_reducible first | exact HI0.out | apply IsS254.alloc | apply IsS254.drewN | apply IsS254.drew | apply IsS254.set_0 | apply IsS254.set_1 | apply IsS254.set_2) | exact HI0.out)); (case side2 => repeat (first | (with_reducible first | exact HB.out | apply below_alloc | apply pw_below_drewN | apply below_drew1 | refine below_set ?_ (IsS254.ge HI0.out)) | exact HB.out)); rintro e w57 ⟨rfl, hi, hb, hk⟩; have n0_ := mk0 (KeepBut.trans (by repeat (first | (with_reducible first | exact HK.out | apply KeepBut.set_ | apply keep_drewN | apply keep_drew | apply keep_alloc) | exact HK.out)) hk (.inl rfl)); have n1_ := mk0 (hb); have n2_ := mk0 (hi); clear HK; clear HB; clear HI0; have HK := n0_; have HB := n1_; have HI0 := n2_; clear n0_ n1_ n2_; (try clear hb); (try clear hb2); (try clear hk); (try clear hi))); try go_wp2_with (first | (go_at_call 146; (with_reducible refine (filter_parser_stop.calls g x1000_3 x1001_3 x1002_3 t152 t167 t168 t169 w0 _ ?side1 ?side2 A55.out).mono ?_); (case side1 => repeat (first | (with_reducible first | exact HI0.out | apply IsS254.alloc | apply IsS254.drewN | apply IsS254.drew | apply IsS254.set_0 | apply IsS254.set_1 | apply IsS254.set_2) | exact HI0.out)); (case side2 => repeat (first | (with_reducible first | exact HB.out | apply below_alloc | apply pw_below_drewN | apply below_drew1 | refine below_set ?_ (IsS254.ge HI0.out)) | exact HB.out)); rintro e w57 ⟨rfl, hi, hb, hk⟩; have n0_ := mk0 (KeepBut.trans (by repeat (first | (with_reducible first | exact HK.out | apply KeepBut.set_ | apply keep_drewN | apply keep_drew | apply keep_alloc) | exact HK.out)) hk (.inl rfl)); have n1_ := mk0 (hb); have n2_ := mk0 (hi); clear HK; clear HB; clear HI0; have HK := n0_; have HB := n1_; have HI0 := n2_; clear n0_ n1_ n2_; (try clear hb); (try clear hb2); (try clear hk); (try clear hi))))
               go_ret
               exact ⟨by first | rfl | (simp [errW_none, errW_some] <;> rfl) | (simp [*, errW_none, errW_some] <;> rfl), by repeat (first | (with_reducible first | exact HI0.out | apply IsS254.alloc | apply IsS254.drewN | apply IsS254.drew | apply IsS254.set_0 | apply IsS254.set_1 | apply IsS254.set_2) | exact HI0.out), by repeat (first | (with_reducible first | exact HB.out | apply below_alloc | apply pw_below_drewN | apply below_drew1 | refine below_set ?_ (IsS254.ge HI0.out)) | exact HB.out), by repeat (first | (with_reducible first | exact HK.out | apply KeepBut.set_ | apply keep_drewN | apply keep_drew | apply keep_alloc) | exact HK.out)⟩
              ·
               rw [if_neg c54] at H
               have c54b0 : (x5_3 == 0) = false := beq_eq_false_iff_ne.mpr c54
               have c54b1 : (x5_3 != 0) = true := bne_iff_ne.mpr c54
               simp only [Option.some.injEq, Prod.mk.injEq] at H
               obtain ⟨rfl, rfl, rfl, rfl⟩ := H
               obtain ⟨HGz58, hgz58⟩ := HI0.out
               have hcz58_0 := cellS254_0 HGz58
               have hcz58_1 := cellS254_1 HGz58
               have hcz58_2 := cellS254_2 HGz58
               have hfz58_0 := blk_frozen HGz58 0
               have hfz58_1 := blk_frozen HGz58 1
               have hfz58_2 := blk_frozen HGz58 2
               clear HGz58 hgz58
               go_wp2
               repeat (go_quiet (fail); try go_wp2)
               go_ret
               exact ⟨by first | rfl | (simp [errW_none, errW_some] <;> rfl) | (simp [*, errW_none, errW_some] <;> rfl), by repeat (first | (with_reducible first | exact HI0.out | apply IsS254.alloc | apply IsS254.drewN | apply IsS254.drew | apply IsS254.set_0 | apply IsS254.set_1 | apply IsS254.set_2) | exact HI0.out), by repeat (first | (with_reducible first | exact HB.out | apply below_alloc | apply pw_below_drewN | apply below_drew1 | refine below_set ?_ (IsS254.ge HI0.out)) | exact HB.out), by repeat (first | (with_reducible first | exact HK.out | apply KeepBut.set_ | apply keep_drewN | apply keep_drew | apply keep_alloc) | exact HK.out)⟩
             ·
              rw [if_neg c53] at H
              have c53b0 : decide (x4_13 < 0) = false := decide_eq_false c53
              clear c53
              simp only [Option.some.injEq, Prod.mk.injEq] at H
              obtain ⟨rfl, rfl, rfl, rfl⟩ := H
              obtain ⟨HGz59, hgz59⟩ := HI0.out
              have hcz59_0 := cellS254_0 HGz59
              have hcz59_1 := cellS254_1 HGz59
              have hcz59_2 := cellS254_2 HGz59
              have hfz59_0 := blk_frozen HGz59 0
              have hfz59_1 := blk_frozen HGz59 1
              have hfz59_2 := blk_frozen HGz59 2
              clear HGz59 hgz59
              go_wp2
              repeat (go_quiet (fail); try go_wp2)
              go_ret
              exact ⟨by first | rfl | (simp [errW_none, errW_some] <;> rfl) | (simp [*, errW_none, errW_some] <;> rfl), by repeat (first | (with_reducible first | exact HI0.out | apply IsS254.alloc | apply IsS254.drewN | apply IsS254.drew | apply IsS254.set_0 | apply IsS254.set_1 | apply IsS254.set_2) | exact HI0.out), by repeat (first | (with_reducible first | exact HB.out | apply below_alloc | apply pw_below_drewN | apply below_drew1 | refine below_set ?_ (IsS254.ge HI0.out)) | exact HB.out), by repeat (first | (with_reducible first | exact HK.out | apply KeepBut.set_ | apply keep_drewN | apply keep_drew | apply keep_alloc) | exact HK.out)⟩
end Go.Proofs.YtnmpijbcajclgaaGreatDoor.PNodeAlone
end
