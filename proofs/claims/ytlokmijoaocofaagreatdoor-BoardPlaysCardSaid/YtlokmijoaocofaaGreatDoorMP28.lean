/- Texts of one claim, one behind the other, made short by a program. -/
import Derived.Test.YtlokmijoaocofaaGreatDoorMP27
set_option linter.unusedSimpArgs false
set_option linter.unusedVariables false
set_option maxRecDepth 100000
section
namespace Go.Proofs.YtlokmijoaocofaaGreatDoor.Mine
open Go.Maps Go.RowKit YtlokmijoaocofaaGreatDoorW.PrintWords YtlokmijoaocofaaGreatDoorW.PrintLast YtlokmijoaocofaaGreatDoorW.PrintMore
open PBoardPlays
open Value renaming slice → Vs
set_option maxHeartbeats 8000000 in
theorem boardPlays_calls (A AA : Option Addr) (n c na ca : Nat) (S : List SA) (acts : List ActR) (w : World) (hn : S.length = n) (hr : Kd.C k61 w A n S) (hc : n ≤ c) (hnm : ∀ p ∈ S, p.f0.size ≤ 9223372036854775807) (hn2 : n ≤ 9223372036854775807) (hac : ActsIs w AA na acts) (hty : ErrTy w) :
 Calls Tryz.prog 3 #[.slice A n c, .slice AA na ca] w fun e w' => e = .returned (.bool true) ∧ Below w.heap.size w w' := by
 have HE0 := mk0 (attrs_calls A n c S w hn hr hc hnm hn2)
 have HL1 := mk0 (show (attrsOf S).length ≤ 6 ∧ ∀ a ∈ attrsOf S, a.f0.size ≤ 1000000000 from ⟨by unfold attrsOf; simp; omega, fun v hv => by
  unfold attrsOf at hv
  obtain ⟨x, _, rfl⟩ := List.mem_map.1 hv
  have := cutB_le x.f0 20
  show (cutB x.f0 20).size ≤ _
  omega⟩)
 have HAC := mk0 hac
 have HTY := mk0 hty
 generalize attrsOf S = S1 at HE0 HL1
 clear hn hr hc hnm hn2 hac hty
 go_enter Tryz.func3, Tryz.ntmps3
 go_wp2_with fail
 refine HE0.out.mono ?_
 rintro e wb ⟨v0, v1, rfl, hR0, hR1, hbb⟩
 obtain ⟨A1, c1, rfl, hc1, hC1⟩ := Kd.R_reads hR0
 obtain ⟨A2, c2, rfl, hc2, hC2⟩ := Kd.R_reads hR1
 obtain ⟨a1, o1, hA1⟩ := R_at2 hR0
 have HB0 := mk0 hbb
 obtain ⟨m1, hm1⟩ : ∃ n, n = S1.length := ⟨_, rfl⟩
 rw [List.length_map] at hc2 hC2 ⊢
 rw [← hm1] at hc1 hC1 hA1 hc2 hC2 HL1 ⊢
 have HM1 := mk0 (And.intro hm1 (And.intro hc1 (And.intro hc2 hA1)))
 have HC1 := mk0 (show Kd.C k61 wb A1 m1 S1 ∧ Kd.C k63 wb A2 m1 (S1.map toA) from ⟨hC1, hC2⟩)
 clear hbb HE0 hR0 hR1 hc1 hC1 hA1 hc2 hC2 hm1
 go_wp2_with fail
 refine (new_calls w.heap.size a1 o1 m1 c1 A1 S1 wb HM1.out.1.symm (by rcases HM1.out.2.2.2 with h | h; exact Or.inl h; exact Or.inr h) HC1.out.1 (by have := HL1.out.1; omega) HM1.out.2.1 HB0.out.size).mono ?_
 rintro e we ⟨hbe, hp⟩
 have n1 := mk0 (below_then HB0.out HB0.out.size hbe)
 have HC2 := mk0 (Kd.C_below HC1.out.2 hbe)
 clear HB0 HC1 hbe
 have HB0 := n1
 clear n1
 have HB := mk0 (Below.refl we.heap.size we)
 have HSC := mk0 (fun W (hW : Below we.heap.size we W) => rschema_calls A2 m1 c2 S1 W HM1.out.1.symm (Kd.C_below HC2.out hW) (by have := HL1.out.1; omega) HM1.out.2.2.1 HL1.out.2)
 rcases hp with ⟨i, hck, b1, rfl, hf⟩ | ⟨hck, g, hg, rfl, hbd⟩
 ·
  rw [hck] at HSC
  have qs : decide (badI2 (some i) < 0) = false := decide_eq_false (by show ¬ (i : Int) < 0; omega)
  have HEI := mk0 (show ErrIs we 3 1 (.iface 143 (.pointer (some ⟨b1, 0, none⟩))) from ⟨b1, _, _, _, rfl, hf, rfl⟩)
  generalize badI2 (some i) = bi at HSC qs
  clear hck hf
  go_upto_region 3 with (fail)
  go_region_held3 (fun _ => True) (trivial) (first
   | (go_at_call 6; (with_reducible refine (awake_calls _).mono ?_); rintro e wx ⟨rfl, hbx⟩; have n_ := mk0 (by with_reducible first | exact below_then HB.out HB.out.size hbx | exact below_then (below_drew HB.out) (below_drew HB.out).size hbx); clear HB; have HB := n_; clear n_)
   | (go_at_call 7; (with_reducible refine (HSC.out _ ?hb).mono ?_); (case hb => with_reducible first | exact HB.out | exact below_drew HB.out); rintro e wx ⟨rfl, hbx⟩; have n_ := mk0 (by with_reducible first | exact below_then HB.out HB.out.size hbx | exact below_then (below_drew HB.out) (below_drew HB.out).size hbx); clear HB; have HB := n_; clear n_))
  all_goals
   have HE2 := mk0 (ErrIs.kept (Kept.of HB.out HB0.out.size) HEI.out)
   have HBF := mk0 (below_then HB0.out HB0.out.size HB.out)
   clear HB HEI HB0 HSC qs
   go_wp2_with fail
   refine (is_err 3 3 1 _ _ (by first | exact HE2.out | exact HE2.out.kept (Kept.of (below_drew (Below.refl _ _)) (Nat.zero_le _)))).mono ?_
   rintro e w17 ⟨rfl, rfl⟩
   go_wp2
   try go_ret
   first | exact ⟨rfl, HBF.out⟩ | exact ⟨rfl, below_drew HBF.out⟩
 ·
  have HBD := mk0 hbd
  have HCK := mk0 (checkBad_none hck).1
  rw [hck] at HSC
  have qs : decide (badI2 none < 0) = true := by decide
  generalize badI2 none = bi at HSC qs
  clear hbd hck
  go_upto_region 3 with (fail)
  go_region_held3 (fun _ => True) (trivial) (first
   | (go_at_call 6; (with_reducible refine (awake_calls _).mono ?_); rintro e wx ⟨rfl, hbx⟩; have n_ := mk0 (by with_reducible first | exact below_then HB.out HB.out.size hbx | exact below_then (below_drew HB.out) (below_drew HB.out).size hbx); clear HB; have HB := n_; clear n_)
   | (go_at_call 7; (with_reducible refine (HSC.out _ ?hb).mono ?_); (case hb => with_reducible first | exact HB.out | exact below_drew HB.out); rintro e wx ⟨rfl, hbx⟩; have n_ := mk0 (by with_reducible first | exact below_then HB.out HB.out.size hbx | exact below_then (below_drew HB.out) (below_drew HB.out).size hbx); clear HB; have HB := n_; clear n_))
  have HBDw := mk0 (HBD.out.below HB.out)
  have HTYw := mk0 (HTY.out.kept (Kept.of (below_then HB0.out HB0.out.size HB.out) (Nat.le_refl _)))
  have HBF := mk0 (below_then HB0.out HB0.out.size HB.out)
  have HCR := mk0 (Kd.C_below HC2.out HB.out)
  clear HB HB0 HSC qs HBD HTY HC2
  go_upto_region 8 with (fail)
  have hbn := below_alloc (Below.refl wx.heap.size wx) (.cells #[.slice A2 m1 c2, .slice none 0 0, .slice none 0 0, .slice none 0 0] 41)
  have kx := heap_alloc_new wx (.cells #[.slice A2 m1 c2, .slice none 0 0, .slice none 0 0, .slice none 0 0] 41)
  have HGX := mk0 HBF.out.size
  have HK := mk0 (Kept.of (base := w.heap.size) (below_then HBF.out HBF.out.size hbn) (Nat.le_refl _))
  have HBD := mk0 (HBDw.out.below hbn)
  have HTY := mk0 (HTYw.out.kept (Kept.of (base := 0) hbn (Nat.zero_le _)))
  have HCR2 := mk0 (Kd.C_below HCR.out hbn)
  clear hbn HBDw HTYw HBF HCR
  generalize wx.alloc (.cells #[.slice A2 m1 c2, .slice none 0 0, .slice none 0 0, .slice none 0 0] 41) = w1 at kx HK HBD HTY HCR2 ⊢
  generalize wx.heap.size = gx at kx HGX ⊢
  have HKX := mk0 kx
  have HRB := mk0 (show IsRB w1 S1 m1 ⟨A2, c2, none, 0, none, 0, none, 0⟩ RB.empty from ⟨HM1.out.1.symm, HM1.out.2.2.1, HCR2.out, Nat.le_refl _, Kd.C_nil _ _, fun x hx => (by cases hx), Nat.le_refl _, Kd.C_nil _ _, fun x hx => (by cases hx), Nat.le_refl _, Kd.C_nil _ _⟩)
  clear kx HCR2
  go_upto_region 9 with (fail)
  go_loopg [10, 11, 12, 13, 14, 15, 16, 17, 18, 108] 61 (fun k v10 v11 v12 v13 v14 v15 v16 v17 v18 v108 W => ∃ (i : Nat) (a1 : Option Addr) (c1 : Nat) (a2 : Option Addr) (c2 : Nat) (a3 : Option Addr) (c3 : Nat) (a4 : Option Addr) (c4 nE nU nG : Nat) (B : Bd) (R : RB), Aside0 (i ≤ na ∧ i ≤ 60 ∧ k + i = 61) ∧ v10 = .int .i64 (i : Int) ∧ Aside0 (Kept w.heap.size w W) ∧ Aside0 (IsBd w.heap.size W g S1 B i) ∧ Aside0 (IsRB W S1 m1 ⟨a1, c1, a2, c2, a3, c3, a4, c4⟩ R) ∧ Aside0 (nE = R.E.length ∧ nU = R.U.length ∧ nG = R.G.length) ∧ Aside0 (Rel B R i ∧ Szs R) ∧ Aside0 (ErrTy W) ∧ Aside0 (W.heap[gx]? = some (.cells #[.slice a1 m1 c1, .slice a2 nE c2, .slice a3 nU c3, .slice a4 nG c4] 41 (0, 0))))
  case atStart => exact ⟨0, A2, c2, none, 0, none, 0, none, 0, 0, 0, 0, Bd.empty, RB.empty, ⟨by omega, by omega, by omega⟩, rfl, HK, HBD, HRB, ⟨rfl, rfl, rfl⟩, ⟨Rel.empty, fun e he => (by cases he)⟩, HTY, HKX⟩
  case round =>
   clear HK HBD HRB HTY HKX
   obtain ⟨i, a1, c1, a2, c2, a3, c3, a4, c4, nE, nU, nG, B, R, HI, rfl, HK, HBD, HRB, HNN, HREL, HTY, HKX⟩ := hrel
   by_cases hi : i < na
   ·
    have b1 : decide ((i : Int) < (na : Int)) = true := decide_eq_true (by omega)
    have b2 : decide (i < na) = true := decide_eq_true (by omega)
    have p1' : (0 : Int) ≤ (i : Int) := by omega
    have p2' : (i : Int) < (na : Int) := by omega
    by_cases h60 : i < 60
    ·
     have b3 : decide ((i : Int) < 60) = true := decide_eq_true (by omega)
     have b4 : decide (i < 60) = true := decide_eq_true (by omega)
     obtain ⟨ad, ac, hA, hget, hok, c0, c1', c2', c3', c4', c5', c6', c7'⟩ := at_act (HAC.out.below HK.out.1) i hi
     subst hA
     rw [Int.toNat_natCast] at c0 c1' c2' c3' c4' c5' c6' c7'
     go_upto_region 12 with (fail)
     have hbn := below_alloc (Below.refl wr.heap.size wr) (.cells #[.int .i64 ac.kind, .int .i64 ac.pub, .int .i64 ac.seq, .int .i64 ac.node, .int .i64 ac.sub, .string ac.text, .slice ac.A ac.n ac.c, .string ac.pay] 46)
     have ka := heap_alloc_new wr (.cells #[.int .i64 ac.kind, .int .i64 ac.pub, .int .i64 ac.seq, .int .i64 ac.node, .int .i64 ac.sub, .string ac.text, .slice ac.A ac.n ac.c, .string ac.pay] 46)
     have hok2 := hok.below hbn
     have hk5 := Kept.of hbn HK.out.1.size
     have n4 := mk0 (HBD.out.below hbn)
     have n1 := mk0 (HK.out.trans hk5)
     have n2 := mk0 (HRB.out.kept hk5)
     have n3 := mk0 (hk5.2 _ _ _ _ HKX.out)
     have n5 := mk0 (HTY.out.kept hk5)
     clear HK HRB HKX HTY
     have HK := n1
     have HRB := n2
     have HKX := n3
     have HTY := n5
     clear n1 n2 n3 n5
     clear HBD hk5 hbn
     have HBD := n4
     clear n4
     clear c0 c1' c2' c3' c4' c5' c6' c7' hok hget
     generalize wr.alloc (.cells #[.int .i64 ac.kind, .int .i64 ac.pub, .int .i64 ac.seq, .int .i64 ac.node, .int .i64 ac.sub, .string ac.text, .slice ac.A ac.n ac.c, .string ac.pay] 46) = w2 at HK HBD HRB HKX HTY ka hok2 ⊢
     generalize wr.heap.size = ga at ka ⊢
     have HKA := mk0 ka
     have HOK := mk0 hok2
     clear ka hok2
     have HDC := mk0 (does_calls w.heap.size g m1 i ⟨a1, c1, a2, c2, a3, c3, a4, c4⟩ S1 B R ac w2 HBD.out HRB.out HREL.out.1 HREL.out.2 HK.out.1.size (by omega) HOK.out HCK.out (by have := HL1.out.1; omega) HTY.out)
     unfold rbV actV at HDC
     dsimp only at HDC
     rw [← HNN.out.1, ← HNN.out.2.1, ← HNN.out.2.2] at HDC
     have y0 := (blk_cell HKX.out 0).trans (show _ = some (Vs a1 m1 c1) from rfl)
     have y1 := (blk_cell HKX.out 1).trans (show _ = some (Vs a2 nE c2) from rfl)
     have y2 := (blk_cell HKX.out 2).trans (show _ = some (Vs a3 nU c3) from rfl)
     have y3 := (blk_cell HKX.out 3).trans (show _ = some (Vs a4 nG c4) from rfl)
     have r0 := (blk_cell HKA.out 0).trans (show _ = some (Value.int .i64 ac.kind) from rfl)
     have r1 := (blk_cell HKA.out 1).trans (show _ = some (Value.int .i64 ac.pub) from rfl)
     have r2 := (blk_cell HKA.out 2).trans (show _ = some (Value.int .i64 ac.seq) from rfl)
     have r3 := (blk_cell HKA.out 3).trans (show _ = some (Value.int .i64 ac.node) from rfl)
     have r4 := (blk_cell HKA.out 4).trans (show _ = some (Value.int .i64 ac.sub) from rfl)
     have r5 := (blk_cell HKA.out 5).trans (show _ = some (Value.string ac.text) from rfl)
     have r6 := (blk_cell HKA.out 6).trans (show _ = some (Vs ac.A ac.n ac.c) from rfl)
     have r7 := (blk_cell HKA.out 7).trans (show _ = some (Value.string ac.pay) from rfl)
     go_wp2_with fail
     refine HDC.out.mono ?_
     rintro e w3 ⟨⟨j1, l1, j2, l2, j3, l3, j4, l4⟩, B9, R9, rfl, hk5, hbd9, hrb9, hrel9, hszs9⟩
     have n1 := mk0 (HK.out.trans hk5)
     have n2 := mk0 hrb9
     have n3 := mk0 (hk5.2 _ _ _ _ HKX.out)
     have n4 := mk0 hbd9
     have n5 := mk0 (HTY.out.kept hk5)
     have n6 := mk0 (And.intro hrel9 hszs9)
     have n7 := mk0 (hk5.2 _ _ _ _ HKA.out)
     have HWT := mk0 (show wf2 (ac.pub, ac.seq) from ⟨HOK.out.pub, HOK.out.seq⟩)
     obtain ⟨mE, hmE⟩ : ∃ k, k = R9.E.length := ⟨_, rfl⟩
     obtain ⟨mU, hmU⟩ : ∃ k, k = R9.U.length := ⟨_, rfl⟩
     obtain ⟨mG, hmG⟩ : ∃ k, k = R9.G.length := ⟨_, rfl⟩
     unfold rbV
     dsimp only
     rw [← hmE, ← hmU, ← hmG]
     have HMM := mk0 (And.intro hmE (And.intro hmU hmG))
     clear hmE hmU hmG HK HBD HRB HKX HTY HREL HDC HNN HKA HOK hk5 hbd9 hrb9 hrel9 hszs9 y0 y1 y2 y3 r0 r1 r2 r3 r4 r5 r6 r7
     go_upto_region 13 with (fail)
     have hbn := below_alloc (Below.refl w3.heap.size w3) (.cells #[.slice j1 m1 l1, .slice j2 mE l2, .slice j3 mU l3, .slice j4 mG l4] 41)
     have kq := heap_alloc_new w3 (.cells #[.slice j1 m1 l1, .slice j2 mE l2, .slice j3 mU l3, .slice j4 mG l4] 41)
     have hk5 := Kept.of hbn n1.out.1.size
     have HK := mk0 (n1.out.trans hk5)
     have HRB := mk0 (n2.out.below hbn)
     have HKX := mk0 (hk5.2 _ _ _ _ n3.out)
     have HBD := mk0 (n4.out.below hbn)
     have HTY := mk0 (n5.out.kept hk5)
     have HREL := n6
     have HKA := mk0 (hk5.2 _ _ _ _ n7.out)
     clear n1 n2 n3 n4 n5 n6 n7 hbn hk5
     generalize w3.alloc (.cells #[.slice j1 m1 l1, .slice j2 mE l2, .slice j3 mU l3, .slice j4 mG l4] 41) = w4 at HK HBD HRB HKX HTY HKA kq ⊢
     generalize w3.heap.size = gq at kq ⊢
     have x0 := (blk_cell kq 0).trans (show _ = some (Vs j1 m1 l1) from rfl)
     have x1 := (blk_cell kq 1).trans (show _ = some (Vs j2 mE l2) from rfl)
     have x2 := (blk_cell kq 2).trans (show _ = some (Vs j3 mU l3) from rfl)
     have x3 := (blk_cell kq 3).trans (show _ = some (Vs j4 mG l4) from rfl)
     have y0 := (blk_cell HKX.out 0).trans (show _ = some (Vs a1 m1 c1) from rfl)
     have y1 := (blk_cell HKX.out 1).trans (show _ = some (Vs a2 nE c2) from rfl)
     have y2 := (blk_cell HKX.out 2).trans (show _ = some (Vs a3 nU c3) from rfl)
     have y3 := (blk_cell HKX.out 3).trans (show _ = some (Vs a4 nG c4) from rfl)
     have f0 := blk_frozen HKX.out 0
     have f1 := blk_frozen HKX.out 1
     have f2 := blk_frozen HKX.out 2
     have f3 := blk_frozen HKX.out 3
     clear kq
     go_upto_region 14 with (fail)
     clear x0 x1 x2 x3 y0 y1 y2 y3
     have hpu := put4 HKX.out (.slice j1 m1 l1) (.slice j2 mE l2) (.slice j3 mU l3) (.slice j4 mG l4)
     have HB := mk0 HK.out.1
     have HGR := HGX
     have k0 : ((w4).setCell ⟨gx, 0, none⟩ (Vs j1 m1 l1)).heap[gx]? = some (.cells #[(Vs j1 m1 l1), (Vs a2 nE c2), (Vs a3 nU c3), (Vs a4 nG c4)] 41 (0, 0)) := by simpa using blk_set HKX.out 0 (Vs j1 m1 l1)
     have k1 : (((w4).setCell ⟨gx, 0, none⟩ (Vs j1 m1 l1)).setCell ⟨gx, 1, none⟩ (Vs j2 mE l2)).heap[gx]? = some (.cells #[(Vs j1 m1 l1), (Vs j2 mE l2), (Vs a3 nU c3), (Vs a4 nG c4)] 41 (0, 0)) := by simpa using blk_set k0 1 (Vs j2 mE l2)
     have k2 : ((((w4).setCell ⟨gx, 0, none⟩ (Vs j1 m1 l1)).setCell ⟨gx, 1, none⟩ (Vs j2 mE l2)).setCell ⟨gx, 2, none⟩ (Vs j3 mU l3)).heap[gx]? = some (.cells #[(Vs j1 m1 l1), (Vs j2 mE l2), (Vs j3 mU l3), (Vs a4 nG c4)] 41 (0, 0)) := by simpa using blk_set k1 2 (Vs j3 mU l3)
     have k3 : (((((w4).setCell ⟨gx, 0, none⟩ (Vs j1 m1 l1)).setCell ⟨gx, 1, none⟩ (Vs j2 mE l2)).setCell ⟨gx, 2, none⟩ (Vs j3 mU l3)).setCell ⟨gx, 3, none⟩ (Vs j4 mG l4)).heap[gx]? = some (.cells #[(Vs j1 m1 l1), (Vs j2 mE l2), (Vs j3 mU l3), (Vs j4 mG l4)] 41 (0, 0)) := by simpa using blk_set k2 3 (Vs j4 mG l4)
     have hbf := (((HB.out.setCell (p := ⟨gx, 0, none⟩) HGR.out (Vs j1 m1 l1)).setCell (p := ⟨gx, 1, none⟩) HGR.out (Vs j2 mE l2)).setCell (p := ⟨gx, 2, none⟩) HGR.out (Vs j3 mU l3)).setCell (p := ⟨gx, 3, none⟩) HGR.out (Vs j4 mG l4)
     have n1 := mk0 (HK.out.put hbf HGX.out hpu)
     have n2 := mk0 (HRB.out.put hpu)
     have n3 := mk0 k3
     have n4 := mk0 (HBD.out.put hpu)
     have n5 := mk0 (HTY.out.put hpu)
     have n7 := mk0 ((hpu.1 _ (hpu.ne HKA.out 0 rfl (fun _ _ _ e => by cases e))).trans HKA.out)
     clear HK HRB HKX HBD HTY HKA HB HGR hbf hpu k0 k1 k2 k3
     generalize (((w4.setCell ⟨gx, 0, none⟩ (Vs j1 m1 l1)).setCell ⟨gx, 1, none⟩ (Vs j2 mE l2)).setCell ⟨gx, 2, none⟩ (Vs j3 mU l3)).setCell ⟨gx, 3, none⟩ (Vs j4 mG l4) = w5 at n1 n2 n3 n4 n5 n7 ⊢
     have HK := n1
     have HRB := n2
     have HKX := n3
     have HBD := n4
     have HTY := n5
     have HKA := n7
     clear n1 n2 n3 n4 n5 n7
     clear f0 f1 f2 f3
     have r1 := (blk_cell HKA.out 1).trans (show _ = some (Value.int .i64 ac.pub) from rfl)
     have r2 := (blk_cell HKA.out 2).trans (show _ = some (Value.int .i64 ac.seq) from rfl)
     go_wp2_with fail
     refine (due_calls w.heap.size g (i + 1) (ac.pub, ac.seq) S1 B9 w5 HBD.out (by omega) HWT.out).mono ?_
     rintro e w6 ⟨hb6, hp⟩
     obtain ⟨AL, cL, L, vE, cc, rfl, hcv, hCL, hcase⟩ : ∃ (AL : Option Addr) (cL : Nat) (L : List SW) (vE : Value) (cc : Int), e = .returned (.tuple #[.slice AL L.length cL, vE]) ∧ CodeV w6 cc vE ∧ Kd.C kW w6 AL L.length L ∧ ((B9.evs (ac.pub, ac.seq) = none ∧ L = [] ∧ cc = 9) ∨ (∃ V p, B9.evs (ac.pub, ac.seq) = some (V, p) ∧ cc = 0 ∧ DueList (dueB S1 B9 (ac.pub, ac.seq) V p) (i + 1) L)) := by
      rcases hp with ⟨h0, b, n, rfl, h2⟩ | ⟨V, p, h0, v, L, rfl, h2, h3⟩
      ·
       exact ⟨none, 0, [], _, 9, rfl, Or.inr ⟨n, h2⟩, Kd.C_nil _ _, Or.inl ⟨h0, rfl, rfl⟩⟩
      ·
       have hR := R_of_own h2 (ok := fun _ => True) (fun _ _ => trivial)
       obtain ⟨AL, cL, rfl, _, hC⟩ := Kd.R_reads hR
       exact ⟨AL, cL, L, _, 0, rfl, Or.inl ⟨rfl, rfl⟩, hC, Or.inr ⟨V, p, h0, rfl, h3⟩⟩
     clear hp r1 r2
     have HCASE := mk0 hcase
     have HCV := mk0 hcv
     have HCL := mk0 hCL
     have n7 := mk0 ((hb6.block _ (blk_lt HKA.out)).trans HKA.out)
     have hk5 := Kept.of hb6 HK.out.1.size
     have n4 := mk0 (HBD.out.below hb6)
     have n1 := mk0 (HK.out.trans hk5)
     have n2 := mk0 (HRB.out.kept hk5)
     have n3 := mk0 (hk5.2 _ _ _ _ HKX.out)
     have n5 := mk0 (HTY.out.kept hk5)
     clear HK HRB HKX HTY
     have HK := n1
     have HRB := n2
     have HKX := n3
     have HTY := n5
     clear n1 n2 n3 n5
     clear HBD hk5 hb6
     have HBD := n4
     clear n4
     clear hcase hcv hCL HKA
     have HKA := n7
     clear n7
     obtain ⟨nL, hnL⟩ : ∃ x, x = L.length := ⟨_, rfl⟩
     rw [← hnL] at HCL ⊢
     have HNL := mk0 hnL
     have HNB := mk0 (show nL ≤ 100 by
      rcases HCASE.out with ⟨_, h1, _⟩ | ⟨V, p, _, _, h1⟩
      ·
       rw [hnL, h1]; decide
      ·
       have := h1.len; omega)
     clear hnL
     have HRD := mk0 (rdue18_calls m1 ⟨j1, l1, j2, l2, j3, l3, j4, l4⟩ S1 R9 (ac.pub, ac.seq) w6 HRB.out (by have := HREL.out.1.le; omega) (by have := HREL.out.1.lu; omega) (by have := HREL.out.1.lg; omega) (by have := HL1.out.1; omega) HREL.out.2)
     unfold rbV at HRD
     dsimp only at HRD
     rw [← HMM.out.1, ← HMM.out.2.1, ← HMM.out.2.2] at HRD
     have r1 := (blk_cell HKA.out 1).trans (show _ = some (Value.int .i64 ac.pub) from rfl)
     have r2 := (blk_cell HKA.out 2).trans (show _ = some (Value.int .i64 ac.seq) from rfl)
     have y0 := (blk_cell HKX.out 0).trans (show _ = some (Vs j1 m1 l1) from rfl)
     have y1 := (blk_cell HKX.out 1).trans (show _ = some (Vs j2 mE l2) from rfl)
     have y2 := (blk_cell HKX.out 2).trans (show _ = some (Vs j3 mU l3) from rfl)
     have y3 := (blk_cell HKX.out 3).trans (show _ = some (Vs j4 mG l4) from rfl)
     go_wp2_with fail
     refine HRD.out.mono ?_
     rintro e w7 ⟨hb7, hp⟩
     have hev := HREL.out.1.ev (ac.pub, ac.seq)
     obtain ⟨AM, cM, M, rfl, hCM, hLM⟩ : ∃ (AM : Option Addr) (cM : Nat) (M : List RGiv), e = .returned (.tuple #[.slice AM M.length cM, .int .i64 cc]) ∧ Kd.C kRG w7 AM M.length M ∧ L = M.map giW := by
      rcases HCASE.out with ⟨h0, h1, h2⟩ | ⟨V, p, h0, h1, h2⟩
      ·
       rw [h0] at hev
       have hf : R9.E.find? (evIs (ac.pub, ac.seq)) = none := by
        cases hq : R9.E.find? (evIs (ac.pub, ac.seq)) with
        | none => rfl
        | some x => rw [hq] at hev; cases hev
       rcases hp with ⟨_, rfl⟩ | ⟨ev, A, c, h3, _⟩
       ·
        exact ⟨none, 0, [], by rw [h2]; rfl, Kd.C_nil _ _, by rw [h1]; rfl⟩
       ·
        rw [hf] at h3; cases h3
      ·
       rw [h0] at hev
       rcases hp with ⟨h3, _⟩ | ⟨ev, A, c, h3, rfl, h4⟩
       ·
        rw [h3] at hev; cases hev
       ·
        rw [h3] at hev
        injection hev with hev
        injection hev with q1 q2
        rw [q1, q2] at h2
        exact ⟨A, c, _, by rw [h1], h4, due_eq HREL.out.1 h3 h2⟩
     have HCM := mk0 hCM
     have HLM := mk0 hLM
     have n1 := mk0 (Kd.C_below HCL.out hb7)
     have n2 := mk0 (HCV.out.kept (Kept.of (base := 0) hb7 (Nat.zero_le _)))
     have hk5 := Kept.of hb7 HK.out.1.size
     have n4 := mk0 (HBD.out.below hb7)
     have n1 := mk0 (HK.out.trans hk5)
     have n2 := mk0 (HRB.out.kept hk5)
     have n3 := mk0 (hk5.2 _ _ _ _ HKX.out)
     have n5 := mk0 (HTY.out.kept hk5)
     clear HK HRB HKX HTY
     have HK := n1
     have HRB := n2
     have HKX := n3
     have HTY := n5
     clear n1 n2 n3 n5
     clear HBD hk5 hb7
     have HBD := n4
     clear n4
     clear hp hev hCM hLM HCL HCV HRD HCASE HKA r1 r2 y0 y1 y2 y3
     have HCL := n1
     have HCV := n2
     clear n1 n2
     rw [show M.length = nL by rw [HNL.out, HLM.out, List.length_map]] at HCM ⊢
     have qc : (cc != cc) = false := by simp
     have qn : ((nL : Int) != (nL : Int)) = false := by simp
     go_wp2_with fail
     refine (of_any HCV.out HTY.out).mono ?_
     rintro e w8 ⟨rfl, hb8⟩
     have n1 := mk0 (Kd.C_below HCL.out hb8)
     have n2 := mk0 (Kd.C_below HCM.out hb8)
     have hk5 := Kept.of hb8 HK.out.1.size
     have n4 := mk0 (HBD.out.below hb8)
     have n1 := mk0 (HK.out.trans hk5)
     have n2 := mk0 (HRB.out.kept hk5)
     have n3 := mk0 (hk5.2 _ _ _ _ HKX.out)
     have n5 := mk0 (HTY.out.kept hk5)
     clear HK HRB HKX HTY
     have HK := n1
     have HRB := n2
     have HKX := n3
     have HTY := n5
     clear n1 n2 n3 n5
     clear HBD hk5 hb8
     have HBD := n4
     clear n4
     clear HCL HCM HCV
     have HCL := n1
     have HCM := n2
     clear n1 n2
     go_upto_region 21 with (fail)
     clear qc qn
     obtain ⟨gko, hgko⟩ : ∃ x, x = gk := ⟨gk, rfl⟩
     go_loopg [18, 108] (nL + 1) (fun k v18 v108 W => ∃ j : Nat, Aside0 (j ≤ nL ∧ k + j = nL + 1) ∧ v108 = .int .i64 (j : Int) ∧ Aside0 (Below w8.heap.size w8 W))
     case atStart => exact ⟨0, ⟨by omega, by omega⟩, rfl, ⟨Below.refl _ _⟩⟩
     case round =>
      obtain ⟨j, HJ, rfl, HBW⟩ := hrel
      by_cases hj : j < nL
      ·
       have t1 : decide ((j : Int) < (nL : Int)) = true := decide_eq_true (by omega)
       have t2 : decide (j < nL) = true := decide_eq_true (by omega)
       have s1 : (0 : Int) ≤ (j : Int) := by omega
       have s2 : (j : Int) < (nL : Int) := by omega
       obtain ⟨ad1, ea, h0, h1⟩ := at_T56 (Kd.C_below HCL.out HBW.out) (j : Int) s1 s2
       cases ea
       obtain ⟨ad2, x, eb, hx, h2, h3, _, _⟩ := at_RG (Kd.C_below HCM.out HBW.out) j hj
       cases eb
       have hrd : rd_T56 L (j : Int) = giW x := by
        show L.getD (j : Int).toNat _ = giW x
        rw [Int.toNat_natCast, List.getD_eq_getElem?_getD, HLM.out, List.getElem?_map, hx]
        rfl
       rw [hrd, Int.toNat_natCast] at h0 h1
       change wr.cell? _ = some (.int .i64 x.node) at h0
       change wr.cell? _ = some (.int .i64 x.id) at h1
       have q0 : ∀ q : BelowP wr, q.w.cell? (ad1.add (j * 2)) = some (.int .i64 x.node) := fun q => q.cell h0
       have q1 : ∀ q : BelowP wr, q.w.cell? ⟨(ad1.add (j * 2)).block, (ad1.add (j * 2)).off + 1, none⟩ = some (.int .i64 x.id) := fun q => q.cell h1
       have q2 : ∀ q : BelowP wr, q.w.cell? (ad2.add (j * 4)) = some (.int .i64 x.node) := fun q => q.cell h2
       have q3 : ∀ q : BelowP wr, q.w.cell? ⟨(ad2.add (j * 4)).block, (ad2.add (j * 4)).off + 1, none⟩ = some (.int .i64 x.id) := fun q => q.cell h3
       have o1 : (x.node != x.node) = false := by simp
       have o2 : (x.id != x.id) = false := by simp
       clear h0 h1 h2 h3 hrd hx
       go_wp2_with fail
       refine wp_region_quiet_below (by kernel_rfl) (by kernel_rfl) ?_
       repeat ((with_reducible refine wpQuiet_step (fun K hK => ?_)); go_simp; first | ((with_reducible refine hK _ ?_); clear hK K) | ((with_reducible apply Exists.intro); (with_reducible refine ⟨fun _ => ?_, hK _ ?_⟩); (fail); clear hK K))
       with_reducible refine wpQuiet_nil ?_
       rintro _ ⟨pq, rfl⟩
       clear q0 q1 q2 q3
       have HBQ := mk0 (below_then HBW.out HBW.out.size pq.h)
       clear HBW
       go_wp2_with fail
       go_roundg (gk - 1)
       case measure => have := HJ.out; omega
       case rel => exact ⟨j + 1, ⟨by omega, by have := HJ.out; omega⟩, (by have := HNB.out; first | rfl | (rw [wrap_in (by omega) (by omega), show (j : Int) + 1 = ((j + 1 : Nat) : Int) by omega])), HBQ⟩
      ·
       have t1 : decide ((j : Int) < (nL : Int)) = false := decide_eq_false (by omega)
       have t2 : decide (j < nL) = false := decide_eq_false (by omega)
       have hbw := HBW.out
       have hk5 := Kept.of hbw HK.out.1.size
       have n4 := mk0 (HBD.out.below hbw)
       have n1 := mk0 (HK.out.trans hk5)
       have n2 := mk0 (HRB.out.kept hk5)
       have n3 := mk0 (hk5.2 _ _ _ _ HKX.out)
       have n5 := mk0 (HTY.out.kept hk5)
       clear HK HRB HKX HTY
       have HK := n1
       have HRB := n2
       have HKX := n3
       have HTY := n5
       clear n1 n2 n3 n5
       clear HBD hk5 hbw
       have HBD := n4
       clear n4
       clear HBW HJ hj HCL HCM HLM HNL
       go_wp2_with fail
       go_roundg (gko - 1)
       case measure => have := HI.out; omega
       case rel => exact ⟨i + 1, j1, l1, j2, l2, j3, l3, j4, l4, mE, mU, mG, B9, R9, ⟨by omega, by omega, by have := HI.out; omega⟩, (by first | rfl | (rw [wrap_in (by omega) (by omega), show (i : Int) + 1 = ((i + 1 : Nat) : Int) by omega])), HK, HBD, HRB, HMM, HREL, HTY, HKX⟩
    ·
     have b3 : decide ((i : Int) < 60) = false := decide_eq_false (by omega)
     have b4 : decide (i < 60) = false := decide_eq_false (by omega)
     go_wp2
     try go_ret
     exact ⟨rfl, HK.out.1⟩
   ·
    have b1 : decide ((i : Int) < (na : Int)) = false := decide_eq_false (by omega)
    have b2 : decide (i < na) = false := decide_eq_false (by omega)
    go_wp2
    try go_ret
    exact ⟨rfl, HK.out.1⟩
end Go.Proofs.YtlokmijoaocofaaGreatDoor.Mine
end
section
namespace Go.Proofs.YtlokmijoaocofaaGreatDoor.Mine
open Go.ChangeShapes Go.WideShapes Go.ChangeAt Go.Deep Go.RowKit YtlokmijoaocofaaGreatDoorW.PrintWords YtlokmijoaocofaaGreatDoorW.PrintLast YtlokmijoaocofaaGreatDoorW.PrintMore
open PBoardPlays
theorem open_schema {H : Type} {enc : TypeId × Value → H} {W : World} {v : Value} {d : DataW H} {p : List MemPlace} {r : Reach} {b0 : Nat} (hv : Value.okWide Tryz.prog W r b0 23 v) (h : DataW.Trod enc Tryz.prog W 0 (fun _ => true) true 23 v d p) :
 ∃ (A : Option Addr) (n c : Nat) (L : List S61), v = .slice A n c ∧ L.length = n ∧ n ≤ c ∧ c ≤ maxLen ∧ Kd.C k61 W A n L ∧ ∀ x ∈ L, x.f0.size ≤ maxLen ∧ (Lit.int .i64 x.f1).wf = true ∧ (Lit.int .i64 x.f2).wf = true ∧ (Lit.int .i64 x.f3).wf = true := by
 obtain ⟨A, n, c, rfl⟩ := okWide_slice Tryz.underlying23 hv
 obtain ⟨fuel, hf⟩ := h
 rcases open_slice_fields Tryz.underlying23 Tryz.underlying61 (by kernel_rfl) (by kernel_rfl) hf with ⟨hcs, _⟩ | ⟨a, len, cap, m, D, Pl, hcs, _, hl, hm, hmm, hx, hi⟩
 ·
  simp [Value.cells] at hcs
  obtain ⟨rfl, rfl, rfl⟩ := hcs
  exact ⟨none, 0, 0, [], rfl, rfl, Nat.le_refl _, Nat.zero_le _, Kd.C_nil _ _, by simp⟩
 ·
  simp [Value.cells] at hcs
  obtain ⟨rfl, rfl, rfl⟩ := hcs
  rw [if_pos rfl] at hmm
  subst hmm
  obtain ⟨L, hL, hat⟩ := pick (fun i (x : S61) => (x.f0.size ≤ maxLen ∧ (Lit.int .i64 x.f1).wf = true ∧ (Lit.int .i64 x.f2).wf = true ∧ (Lit.int .i64 x.f3).wf = true) ∧ ∀ j u, ([Value.string x.f0, .int .i64 x.f1, .int .i64 x.f2, .int .i64 x.f3])[j]? = some u → W.cell? (a.add (i * ([Value.string x.f0, .int .i64 x.f1, .int .i64 x.f2, .int .i64 x.f3]).length + j)) = some u) n (fun i hin => by
   obtain ⟨ys, q, _, _, _, hfl⟩ := hi i (by omega)
   obtain ⟨v0, y0, c0, _, t0⟩ := hfl 0 _ rfl; obtain ⟨v1, y1, c1, _, t1⟩ := hfl 1 _ rfl; obtain ⟨v2, y2, c2, _, t2⟩ := hfl 2 _ rfl; obtain ⟨v3, y3, c3, _, t3⟩ := hfl 3 _ rfl; obtain ⟨s0, e0, _, z0⟩ := DataW.trod_string Tryz.underlying9 t0; obtain ⟨s1, e1, _, z1⟩ := DataW.trod_int Tryz.underlying3 t1; obtain ⟨s2, e2, _, z2⟩ := DataW.trod_int Tryz.underlying3 t2; obtain ⟨s3, e3, _, z3⟩ := DataW.trod_int Tryz.underlying3 t3; obtain rfl := List.singleton_inj.1 e0; obtain rfl := List.singleton_inj.1 e1; obtain rfl := List.singleton_inj.1 e2; obtain rfl := List.singleton_inj.1 e3; refine ⟨⟨s0, s1, s2, s3⟩, ⟨z0, z1, z2, z3⟩, fun j u hj => ?_⟩; match j, hj with | 0, hj => (obtain rfl := Option.some.inj hj; exact c0) | 1, hj => (obtain rfl := Option.some.inj hj; exact c1) | 2, hj => (obtain rfl := Option.some.inj hj; exact c2) | 3, hj => (obtain rfl := Option.some.inj hj; exact c3))
  refine ⟨some a, n, m, L, rfl, hL, hl, hm, ⟨hL, by have : maxLen = 9223372036854775807 := rfl; omega, fun _ => ⟨a, rfl, fun j x hj => ?_⟩⟩, fun x hx => ?_⟩
  ·
   exact ⟨[Value.string x.f0, .int .i64 x.f1, .int .i64 x.f2, .int .i64 x.f3], rfl, k61_mk W x, (hat j x hj).2⟩
  ·
   obtain ⟨j, hj, rfl⟩ := List.getElem_of_mem hx
   exact (hat j _ (List.getElem?_eq_getElem hj)).1
end Go.Proofs.YtlokmijoaocofaaGreatDoor.Mine
end
